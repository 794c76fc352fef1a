/- The plain functions that the clocks' texts compute,with. No condition. -/
import Derived.Test.YtgbfedgghjcdcaaGreatDoorTBB
import Derived.Lib.ItoaNum
import Derived.Lib.Join
import Derived.Lib.AtoiTie
import Derived.Lib.SplitLaws
import Derived.Lib.Split
import Derived.Lib.Strings
import Derived.Lib.IndexLaws
import Derived.IntWalk
set_option linter.all false
namespace Go.Proofs.YtgbfedgghjcdcaaGreatDoor
def mg(n:Int):Bool:=decide (0<=n)&&decide (n<=1024)
def cG(xs:List Int):Bool:=xs.all mg&&decide (1<=xs.length)&&decide (xs.length<=5)
def q9(p:Int×Int):Bool:=decide (p.1<=p.2)
def eY(a b:List Int):Bool:=(a.zip b).all q9
def mJ(n:Nat)(c:List Int):Bool:=cG c&&decide (c.length=n)
def ia(l:List (List Int)):Bool:=l.all (mJ (l.headD []).length)&&decide (0 <l.length)
def fP(a b:List Int):Int×Int:=if ia [a,b]then(if eY a b then(if eY b a then(0,0)else(1,0))else(if eY b a then(2,0)else(3,0)))else(0,1)
def Bh{a b:List Int}(h:ia [a,b]=true):a.length=b.length:=by
 simp[ia,mJ]at h;omega
def D8{α:Type}{l:List α}{x d:α}(h:l[0]?=some x):l.headD d=x:=by
 cases l with
 |nil=>simp at h
 |cons y t=>simpa using h
def Jt{α β:Type}{a:List α}{b:List β}{k:Nat}{x:α}{y:β}(hx:a[k]?=some x)(hy:b[k]?=some y):(a.zip b)[k]?=some (x,y):=by
 rw[List.getElem?_zip_eq_some];exact⟨hx,hy⟩
def qH{α β:Type}(g:β->α->β)(b:β){l:List α}{k:Nat}{x:α}(h:l[k]?=some x):(l.take (k+1)).foldl g b=g ((l.take k).foldl g b) x:=by
 rw[List.take_add_one,h];simp[List.foldl_append]
def vO(xs:List Int):Int:=xs.foldl (·+·) 0
def qs(xs:List Int):Int:=if cG xs then vO xs else 0
def hasS(c:List Int)(r n:Int):Bool:=cG c&&(decide (0<=r)&&(decide (r <c.length)&&(decide (1<=n)&&decide (n<=c.getD r.toNat 0))))
def FI{n:Int}(h:mg n=true):0<=n/\n<=1024:=by simp[mg]at h;omega
def rA{xs:List Int}(h:cG xs=true){k:Nat}{n:Int}(hn:xs[k]?=some n):0<=n/\n<=1024:=by
 simp only[cG,Bool.and_eq_true,List.all_eq_true]at h;exact FI (h.1.1 n (List.mem_of_getElem? hn))
structure Sp where
 r:Int
 f:Int
 t:Int
deriving DecidableEq
def dt{xs:List Int}{k:Nat}{n:Int}(h:xs[k]?=some n):xs.getD k 0=n:=by rw[List.getD_eq_getElem?_getD,h];rfl
def cD(n l h:Int):Bool:=decide (l<=n)&&decide (n<=h)
def iS(e:Ev):Bool:=cG e.past&&(cD e.r 0 ((e.past.length:Int) - 1)&&(decide (e.n=e.past.getD e.r.toNat 0+1)&&(decide (e.n<=1024)&&cD e.t 1 1073741824)))
def l4(e:Ev):Bool:=decide (e.gk=0)&&(decide (e.gi=0)&&(decide (e.ge=0)&&(decide (e.ga=0)&&decide (e.to=0))))
def mI(e:Ev):Bool:=cD e.a 0 255&&cD e.pl 0 1024&&cD e.se 1 1048576
def ry(e:Ev):Bool:=cD e.pl 1 1024&&cD e.se 1 1048576
def qL(e:Ev):Bool:=cD e.gk 0 1&&cD e.ge 0 (if e.gk=1 then 5 else 0)&&cD e.gi 0 1023&&cD e.ga 1 1000000&&cD e.to 0 ((e.past.length:Int) - 1)&&decide (e.to≠e.r)
def bU(e:Ev):Bool:=iS e&&(if e.k=0 then mI e&&l4 e else if e.k=1 then qL e&&(decide (e.a=0)&&(decide (e.pl=0)&&decide (e.se=0)))else if e.k=2 then ry e&&(decide (e.a=0)&&l4 e)else false)
open Go
def dc(b:UInt8):Bool:=decide (48<=b.toNat)&&decide (b.toNat<=57)
def C6(a:Nat)(l:List UInt8):Nat:=l.foldl (fun a b=>10*a+(b.toNat - 48)) a
def dv(l:List UInt8):Nat:=C6 0 l
def mN(w:List UInt8):Int:=match Lib.atoiAll w with
 | .ok v=>v
 | .range=>Lib.atoiSat w
 |_=>0
structure Jw (e:Ev):Prop where
 vp:cG e.past=true
 r0:0<=e.r
 r1:e.r<=9999
 n0:0<=e.n
 n1:e.n<=9999
 t0:0<=e.t
 t1:e.t<=9999999999
 k:e.k=0\/e.k=1\/e.k=2
 k0:e.k=0->(0<=e.a/\e.a<=255/\0<=e.pl/\e.pl<=1024/\0<=e.se/\e.se<=1048576)/\e.gk=0/\e.gi=0/\e.ge=0/\e.ga=0/\e.to=0
 k2:e.k=2->(0<=e.pl/\e.pl<=1024/\0<=e.se/\e.se<=1048576)/\e.a=0/\e.gk=0/\e.gi=0/\e.ge=0/\e.ga=0/\e.to=0
 k1:e.k=1->((e.gk=0\/e.gk=1)/\0<=e.gi/\e.gi<=1023/\0<=e.ge/\e.ge<=5/\0<=e.ga/\e.ga<=1000000/\0<=e.to/\e.to<=9999)/\e.a=0/\e.pl=0/\e.se=0
def wu(l:List Int)(k:Nat):Int:=l.getD k 0
def pos(c:UInt8)(s:List UInt8):Nat:=(s.takeWhile fun b=>b !=c).length
def fD(b:UInt8):Bool:=decide (97<=b.toNat)&&decide (b.toNat<=122)
def ff(b:UInt8):Bool:=(decide (b.toNat=9)||decide (b.toNat=10))||(decide (b.toNat=13)||decide (b.toNat=32))
def cY(b:UInt8):Bool:=fD b ||(dc b ||decide (b.toNat=95))
def bw:Bool->List UInt8->Nat
 |_,[]=>0
 |true,b::r=>if b.toNat=10 then bw false r+1 else bw true r+1
 |false,b::r=>if ff b=true then bw false r+1 else if b.toNat=35 then bw true r+1 else 0
def bK(p:UInt8->Bool):List UInt8->Nat
 |[]=>0
 |b::r=>if p b=true then bK p r+1 else 0
def gM:List (List UInt8):=[[115,111,114,116],[114,101,108,97,116,105,111,110],[99,111,117,110,116,101,114],[115,101,116],[114,101,103,105,115,116,101,114],[105,110,118,97,114,105,97,110,116],[111,112,101,114,97,116,105,111,110],[107,101,121],[114,101,102,101,114,101,110,99,101],[116,111],[99,111,117,110,116],[97,99,121,99,108,105,99],[97,108,108],[115,117,109],[105,110],[97,100,100,119,105,110,115],[114,101,109,111,118,101,119,105,110,115],[108,97,115,116],[109,117,108,116,105],[104,105,100,101],[111,114,100,101,114,101,100],[114,101,113,117,105,114,101],[104,111,108,100],[105,110,115,101,114,116],[100,101,108,101,116,101],[97,100,100],[102,114,111,109],[112,117,116],[100,114,111,112],[97,115,115,105,103,110],[102,111,114],[119,104,101,114,101],[97,110,100],[111,114],[110,111,116]]
def od:List (List UInt8):=[[61,61],[33,61],[60,61],[62,61],[46,46],[60],[62],[61],[43],[45],[42],[40],[41],[123],[125],[44],[58],[59]]
def fX:List (List UInt8)->List UInt8->Nat
 |[],_=>0
 |s::r,t=>if s.length<=t.length/\t.take s.length=s then s.length else fX r t
def fY(t:List UInt8):Nat:=fX od t
def dS:List UInt8->Nat
 |[]=>0
 |b::r=>if(ff b=false/\b.toNat≠35)/\(fD b=false/\dc b=false/\fY (b::r)=0)then dS r+1 else 0
def eC:List UInt8->Int×Nat
 |[]=>(0,0)
 |b::r=>
  if fD b=true then(if(b::r).take (bK cY (b::r))∈gM then 2 else 1,bK cY (b::r))
  else if dc b=true then(3,bK dc (b::r))
  else if 0 <fY (b::r)then(4,fY (b::r))
  else(5,dS (b::r))
structure Tok where
 kind:Int
 nk:Nat
 at_:Nat
 m_:Nat
def jL(l:List UInt8):Nat->Nat->List Tok
 |0,_=>[]
 |f+1,q=>if q+bw false (l.drop q)<l.length then⟨(eC (l.drop (q+bw false (l.drop q)))).1,q,q+bw false (l.drop q),q+bw false (l.drop q)+(eC (l.drop (q+bw false (l.drop q)))).2⟩::jL l f (q+bw false (l.drop q)+(eC (l.drop (q+bw false (l.drop q)))).2)else[⟨0,q,l.length,l.length⟩]
def nY(l:List UInt8):List Tok:=jL l (l.length+1) 0
def pg(l:List UInt8):Int:=if 4096 <l.length then 0 else match nY l with
 |[t,_]=>if t.at_=0/\t.m_=l.length then t.kind else 0
 |_=>0
def uP(l:List UInt8):Bool:=decide (pg l=1)&&decide (l.length<=16)
theorem pM:∀(c:Bool) (l:List UInt8),bw c l<=l.length
 |_,[]=>by simp[bw]
 |true,b::r=>by
  unfold bw;have h1:=pM false r;have h2:=pM true r;split <;>simp <;>omega
 |false,b::r=>by
  unfold bw;have h1:=pM false r;have h2:=pM true r;split
  ·simp;omega
  ·split <;>simp;omega
theorem vq(p:UInt8->Bool):∀(l:List UInt8),bK p l<=l.length
 |[]=>by simp[bK]
 |b::r=>by
  unfold bK;have h1:=vq p r;split <;>simp;omega
theorem vP:∀(S:List (List UInt8)) (t:List UInt8),fX S t<=t.length
 |[],_=>by simp[fX]
 |s::r,t=>by
  unfold fX;split
  ·rename_i h;exact h.1
  ·exact vP r t
theorem A1:∀(l:List UInt8),dS l<=l.length
 |[]=>by simp[dS]
 |b::r=>by
  unfold dS;have h1:=A1 r;split <;>simp;omega
def vV(b:UInt8)(r:List UInt8):eC (b::r)=if fD b=true then(if(b::r).take (bK cY (b::r))∈gM then 2 else 1,bK cY (b::r))else if dc b=true then(3,bK dc (b::r))else if 0 <fY (b::r)then(4,fY (b::r))else(5,dS (b::r)):=by rw[eC]
def Im(l:List UInt8):(eC l).2<=l.length:=by
 cases l with
 |nil=>simp[eC]
 |cons b r=>
  rw[vV];split
  ·exact vq _ (b::r)
  ·split
   ·exact vq _ (b::r)
   ·split
    ·exact vP _ (b::r)
    ·exact A1 (b::r)
def HQ:∀(l:List UInt8),∀b r,l.drop (bw false l)=b::r->ff b=false/\b.toNat≠35
 |l=>by
  suffices H:∀(l:List UInt8) (c:Bool) b r,l.drop (bw c l)=b::r->ff b=false/\b.toNat≠35 from H l false
  intro l
  induction l with
  |nil=>intro c b r h;simp[bw]at h
  |cons x l u=>
   intro c b r h
   cases c with
   |true=>
    unfold bw at h;split at h
    ·exact u false b r (by simpa using h)
    ·exact u true b r (by simpa using h)
   |false=>
    unfold bw at h;split at h
    ·exact u false b r (by simpa using h)
    ·split at h
     ·exact u true b r (by simpa using h)
     ·rename_i h1 h2;rw[List.drop_zero,List.cons.injEq]at h;obtain⟨rfl,_⟩:=h;exact⟨by simpa using h1,h2⟩
def Ip{b:UInt8}{r:List UInt8}(h1:ff b=false)(h2:b.toNat≠35):0 <(eC (b::r)).2:=by
 rw[vV];split
 ·rename_i h;have:cY b=true:=by simp[cY,h]
  simp[bK,this]
 ·split
  ·rename_i h;simp[bK,h]
  ·split
   ·rename_i h;exact h
   ·rename_i h3 h4 u;have h3:fD b=false:=by simpa using h3
    have h4:dc b=false:=by simpa using h4
    show 0 <dS (b::r)
    unfold dS;rw[if_pos ⟨⟨h1,h2⟩,h3,h4,by omega⟩];omega
section
variable {α:Type} {l:List α} {q:Nat} {x:α}
def cx(h:l[q]?=some x):l.drop q=x::l.drop (q+1):=by
 obtain⟨u,rfl⟩:=List.getElem?_eq_some_iff.1 h;exact List.drop_eq_getElem_cons u
def gC(h:l.length<=q):l.drop q=[]:=List.drop_of_length_le h
end
section
variable {l:List UInt8} {q:Nat} {b:UInt8}
def HR(h:l[q]?=some b)(hw:ff b=true):bw false (l.drop q)=bw false (l.drop (q+1))+1:=by
 rw[cx h,bw,if_pos hw]
def HN(h:l[q]?=some b)(hw:ff b=false)(u:b.toNat=35):bw false (l.drop q)=bw true (l.drop (q+1))+1:=by
 rw[cx h,bw,if_neg (by simp[hw]),if_pos u]
def HP(h:l[q]?=some b)(hw:ff b=false)(u:¬b.toNat=35):bw false (l.drop q)=0:=by
 rw[cx h,bw,if_neg (by simp[hw]),if_neg u]
def vG(c:Bool)(h:l.length<=q):bw c (l.drop q)=0:=by
 rw[gC h,bw]
def Ah(h:l[q]?=some b)(u:¬b.toNat=10):bw true (l.drop q)=bw true (l.drop (q+1))+1:=by
 rw[cx h,bw,if_neg u]
def HO(h:l[q]?=some b)(u:b.toNat=10):bw true (l.drop q)=bw false (l.drop q):=by
 rw[cx h,bw,bw,if_pos u,if_pos (by simp[ff,u])]
def HM(h:l[q]?=some b)(u:b.toNat=35):bw true (l.drop q)=bw false (l.drop q):=by
 rw[Ah h (by omega),HN h (by simp[ff,u]) u]
def zZ{p:UInt8->Bool}(h:l[q]?=some b)(hp:p b=true):bK p (l.drop q)=bK p (l.drop (q+1))+1:=by
 rw[cx h,bK,if_pos hp]
def zU{p:UInt8->Bool}(h:l[q]?=some b)(hp:p b=false):bK p (l.drop q)=0:=by
 rw[cx h,bK,if_neg (by simp[hp])]
def zS{p:UInt8->Bool}(h:l.length<=q):bK p (l.drop q)=0:=by
 rw[gC h,bK]
def lA(l:List UInt8)(q:Nat)(b:UInt8):Bool:=(!ff b&&!decide (b.toNat=35))&&(!fD b&&(!dc b&&decide (fY (l.drop q)=0)))
def Jn(h:l[q]?=some b)(hp:lA l q b=true):dS (l.drop q)=dS (l.drop (q+1))+1:=by
 simp only[lA,cx h,Bool.and_eq_true,Bool.not_eq_true',decide_eq_false_iff_not,decide_eq_true_eq]at hp;rw[cx h,dS,if_pos ⟨hp.1,hp.2.1,hp.2.2.1,hp.2.2.2⟩]
def Jm(h:l[q]?=some b)(hp:lA l q b=false):dS (l.drop q)=0:=by
 rw[cx h,dS,if_neg];rintro⟨h1,h2,h3,h4⟩;rw[<- Bool.not_eq_true]at hp;apply hp;simp only[lA,cx h,Bool.and_eq_true,Bool.not_eq_true',decide_eq_false_iff_not,decide_eq_true_eq];exact⟨h1,h2,h3,h4⟩
def Jl(h:l.length<=q):dS (l.drop q)=0:=by rw[gC h,dS]
def Io(h:l[q]?=some b):eC (l.drop q)=if fD b=true then(if(l.drop q).take (bK cY (l.drop q))∈gM then 2 else 1,bK cY (l.drop q))else if dc b=true then(3,bK dc (l.drop q))else if 0 <fY (l.drop q)then(4,fY (l.drop q))else(5,dS (l.drop q)):=by
 rw[cx h,vV]
end
def bV(l:List UInt8)(q:Nat):Nat:=q+bw false (l.drop q)
def gE(l:List UInt8)(q:Nat):Nat:=bV l q+(eC (l.drop (bV l q))).2
def s8{l:List UInt8}{q:Nat}(h:q<=l.length):q<=bV l q/\bV l q<=l.length:=by
 have:=pM false (l.drop q);simp at this;unfold bV;omega
def tQ{l:List UInt8}{q:Nat}(h:bV l q <l.length):bV l q <gE l q/\gE l q<=l.length:=by
 have h1:=Im (l.drop (bV l q));simp at h1;obtain⟨b,u⟩:∃b,l[bV l q]?=some b:=⟨_,List.getElem?_eq_getElem h⟩
 have h2:(l.drop q).drop (bw false (l.drop q))=b::l.drop (bV l q+1):=by
  rw[List.drop_drop,<- cx u];rfl
 obtain⟨h3,h4⟩:=HQ (l.drop q) _ _ h2;have v:=Ip (r:=l.drop (bV l q+1)) h3 h4;rw[<- cx u]at v;unfold gE;omega
def vz{l:List UInt8}{f q:Nat}(h:bV l q <l.length):jL l (f+1) q=⟨(eC (l.drop (bV l q))).1,q,bV l q,gE l q⟩::jL l f (gE l q):=by
 rw[jL,if_pos (by exact h)];rfl
def vy{l:List UInt8}{f q:Nat}(h:¬bV l q <l.length):jL l (f+1) q=[⟨0,q,l.length,l.length⟩]:=by
 rw[jL,if_neg (by exact h)]
theorem z_{l:List UInt8}:∀{f g q:Nat},q<=l.length->l.length <f+q->l.length <g+q->jL l f q=jL l g q
 |0,_,q,h,v,_=>by omega
 |_,0,q,h,_,y=>by omega
 |f+1,g+1,q,h,v,y=>by
  by_cases u:bV l q <l.length
  ·have h1:=tQ u;have h2:=(s8 h).1;rw[vz u,vz u,z_ (f:=f) (g:=g) h1.2 (by omega) (by omega)]
  ·rw[vy u,vy u]
def nZ(l:List UInt8)(q:Nat):List Tok:=jL l (l.length+1 - q) q
def Hd{l:List UInt8}{q:Nat}(hq:q<=l.length)(h:bV l q <l.length):nZ l q=⟨(eC (l.drop (bV l q))).1,q,bV l q,gE l q⟩::nZ l (gE l q):=by
 have h1:=tQ h;have h2:=(s8 hq).1;unfold nZ;rw[show l.length+1 - q=(l.length - q)+1 by omega,vz h,z_ (f:=l.length - q) (g:=l.length+1 - gE l q) h1.2 (by omega) (by omega)]
def Hc{l:List UInt8}{q:Nat}(hq:q<=l.length)(h:¬bV l q <l.length):nZ l q=[⟨0,q,l.length,l.length⟩]:=by
 unfold nZ;rw[show l.length+1 - q=(l.length - q)+1 by omega,vy h]
section
variable {S:List (List UInt8)} {k:Nat} {s t:List UInt8}
def Ic(h:S[k]?=some s)(hp:s.length<=t.length/\t.take s.length=s):fX (S.drop k) t=s.length:=by
 rw[cx h,fX,if_pos hp]
def Aw(h:S[k]?=some s)(hp:¬(s.length<=t.length/\t.take s.length=s)):fX (S.drop k) t=fX (S.drop (k+1)) t:=by
 rw[cx h,fX,if_neg hp]
def Ib(h:S.length<=k):fX (S.drop k) t=0:=by rw[gC h,fX]
end
structure Tb where
 name:ByteArray
 kind:Int
 aB:List Int
 lo:Int
 hi:Int
 first:Int
structure Tm where
 cell:Int
 gH:Int
deriving DecidableEq
structure Rw where
 dm:List Tm
 mS:Int
deriving DecidableEq
structure Cn where
 kind:Int
 na:Int
 row:Rw
 first:Int
 size:Int
structure gm where
 name:ByteArray
 ord:Bool
 aq:List Int
structure fN where
 cell:Int
 add:Int
structure bn where
 kind:Int
 cell:Int
 value:Int
structure lD where
 delta:List fN
 hold:List Rw
 aQ:List bn
structure dT where
 op:Int
 args:List Int
 eff:lD
structure bH where
 table:Int
 ig:Int
 to:Int
structure Md where
 aq:List Int
 tables:List Tb
 dq:List ByteArray
 cons:List Cn
 ops:List gm
 aJ:List dT
 bq:List bH
section
variable {α:Type} {p:Nat->α->Bool} {l:List α} {q:Nat} {x:α}
def bE(p:Nat->α->Bool):Nat->List α->Bool
 |_,[]=>true
 |i,x::r=>p i x&&bE p (i+1) r
def allI(p:Nat->α->Bool)(l:List α):Bool:=bE p 0 l
def oF(h:l[q]?=some x):bE p q (l.drop q)=(p q x&&bE p (q+1) (l.drop (q+1))):=by rw[cx h];rfl
def jV(h:l.length<=q):bE p q (l.drop q)=true:=by rw[gC h];rfl
theorem wo:∀{l:List α} {q:Nat},bE p q l=true↔∀k x,l[k]?=some x->p (q+k) x=true
 |[],q=>by simp[bE]
 |y::r,q=>by
  unfold bE;rw[Bool.and_eq_true,wo (l:=r) (q:=q+1)];constructor
  ·rintro⟨h1,h2⟩ k x u
   cases k with
   |zero=>cases u;exact h1
   |succ k=>have:=h2 k x (by simpa using u);rwa[show q+1+k=q+(k+1) by omega]at this
  ·intro h;exact⟨h 0 y rfl,fun k x u=>by have:=h (k+1) x (by simpa using u);rwa[show q+1+k=q+(k+1) by omega]⟩
def sY:allI p l=true↔∀k x,l[k]?=some x->p k x=true:=by
 unfold allI;rw[wo];simp
def qf(f:α->Bool)(h:l[q]?=some x):(l.drop q).any f=(f x ||(l.drop (q+1)).any f):=by rw[cx h];rfl
def qe(f:α->Bool)(h:l.length<=q):(l.drop q).any f=false:=by rw[gC h];rfl
def ib(f:α->Bool)(h:l[q]?=some x):(l.drop q).all f=(f x&&(l.drop (q+1)).all f):=by rw[cx h];rfl
def gv(f:α->Bool)(h:l.length<=q):(l.drop q).all f=true:=by rw[gC h];rfl
end
def jH(s:ByteArray):Bool:=uP s.data.toList
def c6(l:List Int):Bool:=l.all fun n=>decide (1<=n)&&decide (n<=6)
def c_(u:List Int)(c:Int):Bool:=decide (0<=c)&&decide (c <u.length)
def fG(u v:List Int):Int:=v.foldl (fun n c=>n*u.getD c.toNat 0) 1
def bp(u v:List Int):Int:=if(decide (v.length<=3)&&c6 u)&&v.all (c_ u)then fG u v else 0
def bz(k:Int):Bool:=decide (k=0)||decide (k=1)
def vl(t:Tb):Bool:=(decide (t.lo<=t.hi)&&(decide (-9999<=t.lo)&&decide (t.hi<=9999)))&&(!(decide (t.kind=0)||(decide (t.kind=2)||decide (t.kind=3)))||(decide (t.lo=0)&&decide (t.hi=1)))
def bQ(u:List Int)(s:Bool)(l:List Tb):Int:=l.foldl (fun n t=>if bz t.kind=s then n+bp u t.aB else n) 0
def gU(v:List Int)(l:List Tb)(i:Nat)(t:Tb):Bool:=
 (!(l.take i).any fun u=>decide (u.name=t.name))&&(jH t.name&&((decide (0<=t.kind)&&decide (t.kind<=5))&&(!decide (bp v t.aB=0)&&(vl t&&decide (t.first=bQ v (bz t.kind) (l.take i))))))
def ce(u:List Int)(l:List Tb):Bool:=(decide (u.length<=4)&&(c6 u&&decide (l.length<=12)))&&(allI (gU u l) l&&(decide (bQ u true l<=128)&&decide (bQ u false l<=64)))
def e9(u:List Int)(s:Bool)(t:Tb):List (Int×Int):=if bz t.kind=s then List.replicate (bp u t.aB).toNat (t.lo,t.hi)else[]
def dA(u:List Int)(l:List Tb)(s:Bool):List (Int×Int):=if ce u l then l.flatMap (e9 u s)else[]
def iq(u:List Int)(s:Bool)(c:Int)(t:Tb):Bool:=decide (bz t.kind=s)&&(decide (0<=c)&&(decide (0<=c - t.first)&&decide (c - t.first <bp u t.aB)))
def iR(f:Tb->Bool):Nat->List Tb->Option (Nat×Tb)
 |_,[]=>none
 |i,t::r=>if f t=true then some (i,t)else iR f (i+1) r
def iE(u:List Int)(l:List Tb)(s:Bool)(c:Int):Option (Nat×Tb):=if ce u l then iR (iq u s c) 0 l else none
def xl{f:Tb->Bool}{l:List Tb}{q:Nat}{t:Tb}(h:l[q]?=some t):iR f q (l.drop q)=if f t=true then some (q,t)else iR f (q+1) (l.drop (q+1)):=by rw[cx h];rfl
def DD{f:Tb->Bool}{l:List Tb}{q:Nat}(h:l.length<=q):iR f q (l.drop q)=none:=by rw[gC h];rfl
def nR(u v:List Int):Nat->Int->List Int->List Int
 |0,_,r=>r
 |i+1,k,r=>nR u v i (k.tdiv (u.getD (v.getD i 0).toNat 0)) (r.set i (k.tmod (u.getD (v.getD i 0).toNat 0)))
def uT(u v:List Int)(k:Int):List Int:=nR u v v.length k (List.replicate v.length 0)
def eF(x m:Int):Bool:=decide (-m<=x)&&decide (x<=m)
def lw(n:Int)(l:List Tm)(i:Nat)(t:Tm):Bool:=(decide (0<=t.cell)&&decide (t.cell <n))&&((decide (i=0)||decide ((l.getD (i - 1) ⟨0,0⟩).cell <t.cell))&&(!decide (t.gH=0)&&eF t.gH 1000))
def gR(n:Int)(r:Rw):Bool:=allI (lw n r.dm) r.dm&&eF r.mS 1000000000
def jx(u:List Int)(c:Cn)(t:Tb):Bool:=decide (t.kind=0)&&(decide (t.aB.length=2)&&(decide (t.aB.getD 0 0=t.aB.getD 1 0)&&(decide (t.first=c.first)&&decide (u.getD (t.aB.getD 0 0).toNat 0=c.size))))
def k6(m:Md)(c:Cn):Bool:=(decide (c.row.dm.length=0)&&decide (c.row.mS=0))&&m.tables.any (jx m.aq c)
def rK(i:Nat)(r:Int×Int):Rw:=⟨[⟨i,-1⟩],-r.1⟩
def vo(i:Nat)(r:Int×Int):Rw:=⟨[⟨i,1⟩],r.2⟩
def Jr:Rw:=⟨[],0⟩
def A3:Cn:=⟨0,0,Jr,0,0⟩
def lf(cs:List Cn)(i:Nat)(r:Int×Int):Bool:=decide ((cs.getD (2*i) A3).row=rK i r)&&decide ((cs.getD (2*i+1) A3).row=vo i r)
def jq(m:Md)(n:Nat)(i:Nat)(c:Cn):Bool:=
 (decide (0<=c.na)&&decide (c.na <m.dq.length))&&((decide (c.kind=0)&&(decide (c.first=0)&&(decide (c.size=0)&&gR n c.row)))||(decide (2*n<=i)&&(decide (c.kind=1)&&k6 m c)))
def lP(m:Md)(l:List (Int×Int)):Bool:=(decide (2*l.length<=m.cons.length)&&decide (m.cons.length<=512))&&(allI (lf m.cons) l&&allI (jq m l.length) m.cons)
def kU(n:Int)(l:List fN)(i:Nat)(t:fN):Bool:=(decide (0<=t.cell)&&decide (t.cell <n))&&((decide (i=0)||decide ((l.getD (i - 1) ⟨0,0⟩).cell <t.cell))&&(!decide (t.add=0)&&eF t.add 1000000000))
def jM(k:Int):Bool:=decide (k=2)||decide (k=3)
def sH(u:bn)(t:Tb):Bool:=if jM t.kind then((decide (u.kind=0)||decide (u.kind=1))&&decide (u.value=0))else(decide (u.kind=2)&&(decide (t.lo<=u.value)&&decide (u.value<=t.hi)))
def fK(m:Md)(l:List bn)(i:Nat)(u:bn):Bool:=match iE m.aq m.tables false u.cell with
 |some (_,t)=>(decide (i=0)||decide ((l.getD (i - 1) ⟨0,0,0⟩).cell <u.cell))&&sH u t
 |none=>false
def mZ(m:Md)(n:Int)(x:lD):Bool:=(allI (kU n x.delta) x.delta&&(x.hold.all (gR n)&&allI (fK m x.aQ) x.aQ))&&(decide (x.hold.length<=8)&&decide (x.aQ.length<=32))
def iw:List Int->List Int->Bool
 |x::a,y::b=>if x=y then iw a b else decide (x <y)
 |[],_::_=>true
 |_,[]=>false
def kP(m:Md)(s a:Int):Bool:=if s <0 then eF a 9999 else decide (0<=a)&&decide (a <m.aq.getD s.toNat 0)
def v8:gm:=⟨⟨#[]⟩,false,[]⟩
def ou:dT:=⟨0,[],⟨[],[],[]⟩⟩
def gu(m:Md)(n:Int)(i:Nat)(a:dT):Bool:=
 (((decide (0<=a.op)&&decide (a.op <m.ops.length))&&decide (a.args.length=(m.ops.getD a.op.toNat v8).aq.length))&&allI (fun k x=>kP m ((m.ops.getD a.op.toNat v8).aq.getD k 0) x) a.args)&&
 ((decide (i=0)||(decide ((m.aJ.getD (i - 1) ou).op <a.op)||(decide ((m.aJ.getD (i - 1) ou).op=a.op)&&iw (m.aJ.getD (i - 1) ou).args a.args)))&&mZ m n a.eff)
def iA(m:Md)(o:gm):Bool:=(o.aq.all fun s=>decide (-1<=s)&&decide (s <m.aq.length))&&decide (o.aq.length<=3)
def jr(l:List ByteArray)(i:Nat)(s:ByteArray):Bool:=jH s&&!(l.take i).any fun u=>decide (u=s)
def lQ(l:List ByteArray):Bool:=allI (jr l) l
def oD(m:Md)(n:Int):Bool:=(m.ops.all (iA m)&&(decide (m.ops.length<=8)&&(lQ (m.ops.map (·.name))&&decide (m.aJ.length<=256))))&&allI (gu m n) m.aJ
def ov:Tb:=⟨⟨#[]⟩,0,[],0,0,0⟩
def pb(i:Int)(n:Nat):Bool:=decide (0<=i)&&decide (i <n)
def im(m:Md)(h:bH):Bool:=(pb h.table m.tables.length&&(pb h.to m.tables.length&&!decide (h.table=h.to)))&&
 ((decide ((m.tables.getD h.table.toNat ov).kind=0)&&decide ((m.tables.getD h.to.toNat ov).kind=0))&&(pb h.ig (m.tables.getD h.table.toNat ov).aB.length&&(decide ((m.tables.getD h.to.toNat ov).aB.length=1)&&decide ((m.tables.getD h.to.toNat ov).aB.getD 0 0=(m.tables.getD h.table.toNat ov).aB.getD h.ig.toNat 0))))
def bS(l:List bH):Nat->Int->Int->Bool
 |0,a,b=>decide (a=b)
 |n+1,a,b=>decide (a=b)||l.any fun h=>decide (h.table=a)&&bS l n h.to b
def l5(m:Md):Bool:=decide (m.bq.length<=12)&&(m.bq.all (im m)&&m.bq.all fun h=>!bS m.bq m.tables.length h.to h.table)
def gN(m:Md):Bool:=((ce m.aq m.tables&&decide (m.dq.length<=24))&&lQ m.dq)&&(lP m (dA m.aq m.tables true)&&(oD m (dA m.aq m.tables true).length&&l5 m))
section
variable {S C:List Int}
def uY{k:Nat}{c:Int}(h:C[k]?=some c):fG S (C.take (k+1))=fG S (C.take k)*S.getD c.toNat 0:=qH _ _ h
def An(hs:c6 S=true){k:Nat}{n:Int}(h:S[k]?=some n):1<=n/\n<=6:=by
 have:=List.all_eq_true.1 hs n (List.mem_of_getElem? h);simpa using this
def wW(hs:c6 S=true){c:Int}(hc:c_ S c=true):1<=S.getD c.toNat 0/\S.getD c.toNat 0<=6:=by
 simp only[c_,Bool.and_eq_true,decide_eq_true_eq]at hc;obtain⟨n,u⟩:∃n,S[c.toNat]?=some n:=⟨_,List.getElem?_eq_getElem (by omega)⟩;rw[dt u];exact An hs u
theorem zc(hs:c6 S=true):∀(C:List Int) (a b:Int),C.all (c_ S)=true->1<=a->a<=b->a<=C.foldl (fun n c=>n*S.getD c.toNat 0) a/\C.foldl (fun n c=>n*S.getD c.toNat 0) a<=b*6^C.length
 |[],a,b,_,_,h=>by simp;exact h
 |c::C,a,b,u,D,y=>by
  simp only[List.all_cons,Bool.and_eq_true]at u;obtain⟨h1,h2⟩:=wW hs u.1;have z:a*1<=a*S.getD c.toNat 0:=Int.mul_le_mul_of_nonneg_left h1 (by omega);have v:a*S.getD c.toNat 0<=b*6:=Int.mul_le_mul y h2 (by omega) (by omega);have:=zc hs C (a*S.getD c.toNat 0) (b*6) u.2 (by omega) v;rw[List.foldl_cons,List.length_cons,Int.pow_succ];rw[Int.mul_assoc,Int.mul_comm 6]at this;exact⟨by omega,this.2⟩
def rE(hs:c6 S=true)(hc:C.all (c_ S)=true)(hl:C.length<=3):1<=fG S C/\fG S C<=216:=by
 have h:=zc hs C 1 1 hc (by omega) (by omega);refine⟨h.1,Int.le_trans h.2 ?_⟩;have:C.length=0\/C.length=1\/C.length=2\/C.length=3:=by omega
 rcases this with e|e|e|e <;>rw[e]<;>decide
def jI(S C:List Int):0<=bp S C/\bp S C<=216:=by
 unfold bp;split
 ·rename_i h;simp only[Bool.and_eq_true,decide_eq_true_eq]at h;have:=rE h.1.2 h.2 (by omega);omega
 ·omega
theorem tz(s:Bool):∀(l:List Tb) (a:Int),0<=a->a<=l.foldl (fun n t=>if bz t.kind=s then n+bp S t.aB else n) a/\l.foldl (fun n t=>if bz t.kind=s then n+bp S t.aB else n) a<=a+216*l.length
 |[],a,h=>by simp
 |t::l,a,h=>by
  have u:=jI S t.aB;rw[List.foldl_cons,List.length_cons];split
  ·have:=tz s l (a+bp S t.aB) (by omega);omega
  ·have:=tz s l a h;omega
def lO(s:Bool)(l:List Tb):0<=bQ S s l/\bQ S s l<=216*l.length:=by
 have:=tz (S:=S) s l 0 (by omega);unfold bQ;omega
def tA(s:Bool){l:List Tb}{k:Nat}{t:Tb}(h:l[k]?=some t):bQ S s (l.take (k+1))=if bz t.kind=s then bQ S s (l.take k)+bp S t.aB else bQ S s (l.take k):=qH _ _ h
end
def ng{α β:Type}{f:α->List β}{l:List α}{q:Nat}{x:α}(h:l[q]?=some x):(l.take (q+1)).flatMap f=(l.take q).flatMap f++f x:=by
 rw[List.take_add_one,h];simp
def vg{α:Type}(n:Nat)(x:α):List.replicate (n+1) x=List.replicate n x++[x]:=List.replicate_succ'
def GP(S:List Int)(s:Bool)(t:Tb):(e9 S s t).length=if bz t.kind=s then(bp S t.aB).toNat else 0:=by
 unfold e9;split <;>simp
theorem zx(S:List Int)(s:Bool):∀(l:List Tb) (a:Int),a+(l.flatMap (e9 S s)).length=l.foldl (fun n t=>if bz t.kind=s then n+bp S t.aB else n) a
 |[],a=>by simp
 |t::l,a=>by
  have y:=jI S t.aB;have u:=GP S s t;have v:=zx S s l (if bz t.kind=s then a+bp S t.aB else a);rw[List.flatMap_cons,List.foldl_cons,<- v,List.length_append,u];split <;>omega
def zw(S:List Int)(s:Bool)(l:List Tb):((l.flatMap (e9 S s)).length:Int)=bQ S s l:=by
 have:=zx S s l 0;unfold bQ;omega
def GO(S:List Int)(s:Bool)(l:List Tb):(l.flatMap (e9 S s)).length<=216*l.length:=by
 have:=zw S s l;have:=lO (S:=S) s l;omega
def xW{S:List Int}{L:List Tb}(h:ce S L=true):bQ S true L<=128/\bQ S false L<=64:=by
 simp only[ce,Bool.and_eq_true,decide_eq_true_eq]at h;exact⟨h.2.2.1,h.2.2.2⟩
def k_{S:List Int}{L:List Tb}(h:ce S L=true):S.length<=4/\L.length<=12:=by
 simp only[ce,Bool.and_eq_true,decide_eq_true_eq]at h;exact⟨h.1.1,h.1.2.2⟩
def q8{S:List Int}{L:List Tb}(h:ce S L=true):c6 S=true:=by
 simp only[ce,Bool.and_eq_true,decide_eq_true_eq]at h;exact h.1.2.1
def nx{S:List Int}{L:List Tb}(h:ce S L=true){k:Nat}{t:Tb}(ht:L[k]?=some t):gU S L k t=true:=by
 simp only[ce,Bool.and_eq_true]at h;exact sY.1 h.2.1 k t ht
def zy(S:List Int)(L:List Tb)(s:Bool):(dA S L s).length<=128:=by
 unfold dA;split
 ·rename_i h;have h1:=zw S s L;have h2:=xW h;cases s <;>omega
 ·simp
def FE{S C:List Int}(h:bp S C≠0):C.length<=3/\c6 S=true/\C.all (c_ S)=true:=by
 unfold bp at h;split at h
 ·rename_i u;simpa[Bool.and_eq_true,and_assoc]using u
 ·exact absurd rfl h
def nw{S:List Int}{L:List Tb}(h:ce S L=true){k:Nat}{t:Tb}(ht:L[k]?=some t):t.aB.length<=3/\c6 S=true/\t.aB.all (c_ S)=true:=by
 have h1:=nx h ht;simp only[gU,Bool.and_eq_true,Bool.not_eq_true',decide_eq_false_iff_not]at h1;exact FE h1.2.2.2.1
def xY{S:List Int}{L:List Tb}(h:ce S L=true){k:Nat}{t:Tb}(ht:L[k]?=some t):t.lo<=t.hi/\ -9999<=t.lo/\t.hi<=9999:=by
 have h1:=nx h ht;simp only[gU,vl,Bool.and_eq_true,Bool.not_eq_true',decide_eq_false_iff_not,decide_eq_true_eq]at h1;exact h1.2.2.2.2.1.1
def GQ{S:List Int}{L:List Tb}{s:Bool}{r:Int×Int}(hr:r∈dA S L s):r.1<=r.2/\ -9999<=r.1/\r.2<=9999:=by
 unfold dA at hr;split at hr
 ·rename_i h;obtain⟨t,y,u⟩:=List.mem_flatMap.1 hr;obtain⟨k,v,rfl⟩:=List.getElem_of_mem y;unfold e9 at u;split at u
  ·obtain⟨_,rfl⟩:=List.mem_replicate.1 u;exact xY h (List.getElem?_eq_getElem v)
  ·cases u
 ·cases hr
theorem vQ{S:List Int}{s:Bool}{c:Int}:∀{l:List Tb} {q i:Nat} {t:Tb},iR (iq S s c) q l=some (i,t)->q<=i/\l[i - q]?=some t/\iq S s c t=true
 |[],_,_,_,h=>by cases h
 |u::l,q,i,t,h=>by
  unfold iR at h;split at h
  ·rename_i v;cases h;exact⟨Nat.le_refl _,by simp,v⟩
  ·obtain⟨h1,h2,h3⟩:=vQ h;refine⟨by omega,?_,h3⟩;rw[show i - q=(i - (q+1))+1 by omega];simpa using h2
def Ig{S:List Int}{L:List Tb}{s:Bool}{c:Int}{i:Nat}{t:Tb}(h:iE S L s c=some (i,t)):ce S L=true/\L[i]?=some t/\iq S s c t=true:=by
 unfold iE at h;split at h
 ·rename_i u;have:=vQ h;exact⟨u,this.2.1,this.2.2⟩
 ·cases h
section
variable {α:Type}
structure Jv (lt:α->α->Bool):Prop where
 asym:∀a b,lt a b=true->lt b a=false
 JC:∀a b c,lt a b=false->lt b c=false->lt a c=false
variable (lt:α->α->Bool)
variable {lt}
end
def sg(a b:Int):Int:=if a <b then -1 else if b <a then 1 else 0
def gO:List Int->Int
 |[]=>0
 |x::l=>if x=0 then gO l else x
section
variable {α:Type} (lt:α->α->Bool)
end
section
variable {α:Type}
end
def nm(e:Ev):Int×Int:=(e.r,e.n)
def ii:Nat->List Int->List (Int×Int)
 |_,[]=>[]
 |r,n::c=>(List.range n.toNat).map (fun i:Nat=>((r:Int),(i:Int)+1))++ii (r+1) c
def mO(a b:Ev):Bool:=bU a&&(bU b&&hasS b.past a.r a.n)
structure ClosedP (l:List Ev):Prop where
 iQ:l.length<=1024
 form:∀e∈l,bU e=true
 alike:∀e∈l,∀x∈l,e.past.length=x.past.length
 names:(l.map nm).Nodup
 down:∀e∈l,∀r n,hasS e.past r n=true->∃x∈l,nm x=(r,n)/\eY x.past e.past=true/\x.t <e.t
open Classical in
noncomputable def fv(l:List Ev):Bool:=decide (ClosedP l)
section
open Classical
def wT{l:List Ev}(h:ClosedP l):fv l=true:=by unfold fv;exact decide_eq_true h
def oP{l:List Ev}(h:¬ClosedP l):fv l=false:=by unfold fv;exact decide_eq_false h
def CD{l:List Ev}:fv l=true↔ClosedP l:=by unfold fv;exact decide_eq_true_iff
end
theorem tJ{p:Int×Int}:∀(c:List Int) (r:Nat),p∈ii r c↔∃k,k <c.length/\p.1=(r+k:Nat)/\1<=p.2/\p.2<=c.getD k 0
 |[],r=>by simp[ii]
 |n::c,r=>by
  rw[ii,List.mem_append,tJ c (r+1)];constructor
  ·rintro(h|⟨k,h1,h2,h3,h4⟩)
   ·simp only[List.mem_map,List.mem_range]at h;obtain⟨i,u,rfl⟩:=h;refine⟨0,by simp,by simp,by dsimp only;omega,?_⟩;show(i:Int)+1<=n
    omega
   ·refine⟨k+1,by simp;omega,by omega,h3,?_⟩;simpa using h4
  ·rintro⟨k,h1,h2,h3,h4⟩
   cases k with
   |zero=>
    left
    have h4:p.2<=n:=by simpa using h4
    simp only[List.mem_map,List.mem_range];refine⟨(p.2 - 1).toNat,by omega,?_⟩;obtain⟨v,y⟩:=p;simp only[Prod.mk.injEq];simp at h2 h3;constructor <;>omega
   |succ k=>
    right
    exact⟨k,by simp at h1;omega,by omega,h3,by simpa using h4⟩
def tI{c:List Int}(hv:cG c=true){r n:Int}:(r,n)∈ii 0 c↔hasS c r n=true:=by
 rw[tJ];unfold hasS;simp only[hv,Bool.true_and,Bool.and_eq_true,decide_eq_true_eq];constructor
 ·rintro⟨k,h1,h2,h3,h4⟩;have h2:r=(k:Int):=by simpa using h2
  subst h2;exact⟨by omega,by omega,h3,by simpa using h4⟩
 ·rintro⟨h1,h2,h3,h4⟩;exact⟨r.toNat,by omega,by simp;omega,h3,h4⟩
theorem yJ{α β:Type}{f:α->β}(hf:∀a b,f a=f b->a=b):∀{l:List α},l.Nodup->(l.map f).Nodup
 |[],_=>List.nodup_nil
 |x::l,h=>by
  have h:=List.nodup_cons.1 h;rw[List.map_cons,List.nodup_cons];refine⟨fun v=>?_,yJ hf h.2⟩;obtain⟨y,u,e⟩:=List.mem_map.1 v;rw[hf _ _ e]at u;exact h.1 u
theorem wZ:∀(c:List Int) (r:Nat),(ii r c).Nodup
 |[],r=>List.nodup_nil
 |n::c,r=>by
  rw[ii,List.nodup_append];refine⟨yJ (fun a b h=>by simp only[Prod.mk.injEq]at h;omega) List.nodup_range,wZ c (r+1),fun a u b v e=>?_⟩;subst e;obtain⟨i,_,rfl⟩:=List.mem_map.1 u;obtain⟨k,_,h2,_⟩:=(tJ c (r+1)).1 v;dsimp only at h2;omega
theorem foldl_add:∀(c:List Int) (a:Int),c.foldl (·+·) a=a+c.foldl (·+·) 0
 |[],a=>by simp
 |x::c,a=>by
  rw[List.foldl_cons,List.foldl_cons,foldl_add c (a+x),foldl_add c (0+x)];omega
theorem wY:∀(c:List Int) (r:Nat),(∀n∈c,0<=n)->((ii r c).length:Int)=vO c
 |[],r,_=>rfl
 |n::c,r,h=>by
  have u:=wY c (r+1) (fun x v=>h x (by simp[v]));have y:=h n (by simp);rw[ii,List.length_append,List.length_map,List.length_range];unfold vO at u⊢;rw[List.foldl_cons,foldl_add c (0+n),<- u];omega
section
variable {α:Type} [DecidableEq α]
theorem rk:∀{L D:List α},L.Nodup->(∀x∈L,x∈D)->L.length<=D.length/\(L.length=D.length->∀x∈D,x∈L)
 |[],D,_,_=>⟨by simp,fun h x u=>by
  have:D=[]:=List.length_eq_zero_iff.1 (by simpa using h.symm);subst this;cases u⟩
 |y::L,D,J,hs=>by
  have I:=hs y (by simp);have v:=List.nodup_cons.1 J;have z:=List.length_erase_of_mem I;have G:0 <D.length:=List.length_pos_of_mem I;have Q:=rk (L:=L) (D:=D.erase y) v.2 (fun x u=>(List.mem_erase_of_ne (fun e=>by subst e;exact v.1 u)).2 (hs x (by simp[u])));refine⟨by simp;omega,fun O x u=>?_⟩;by_cases e:x=y
  ·simp[e]
  ·have:=Q.2 (by simp at O;omega) x ((List.mem_erase_of_ne e).2 u);simp[this]
def Fu{L D:List α}{p:α->Bool}(hp:∀x,p x=true↔x∈D)(z:L.Nodup)(y:D.Nodup):L.countP p=D.length↔∀x∈D,x∈L:=by
 rw[List.countP_eq_length_filter];have v:(L.filter p).Nodup:=z.filter _;have hs:∀x∈L.filter p,x∈D:=fun x u=>(hp x).1 (List.mem_filter.1 u).2;constructor
 ·intro h x u;exact(List.mem_filter.1 ((rk v hs).2 h x u)).1
 ·intro h;have h1:=(rk v hs).1;have h2:=(rk (L:=D) (D:=L.filter p) y (fun x u=>List.mem_filter.2 ⟨h x u,(hp x).2 u⟩)).1;omega
end
def o9{e:Ev}(h:bU e=true):cG e.past=true:=by
 simp only[bU,iS,Bool.and_eq_true]at h;exact h.1.1
def IZ{c:List Int}(h:cG c=true):∀n∈c,0<=n:=fun n v=>by
 obtain⟨k,u,rfl⟩:=List.mem_iff_getElem.1 v;exact(rA h (List.getElem?_eq_getElem u)).1
def rj(l:List Ev)(e:Ev):Nat:=l.countP fun x=>mO x e
def yy{l:List Ev}(hf:∀e∈l,bU e=true)(hn:(l.map nm).Nodup){e:Ev}(he:bU e=true):(rj l e:Int)=qs e.past↔∀r n,hasS e.past r n=true->∃x∈l,nm x=(r,n):=by
 have u:=o9 he;have h1:qs e.past=((ii 0 e.past).length:Int):=by rw[qs,if_pos u,wY _ _ (IZ u)]
 have h2:rj l e=(l.map nm).countP (fun p=>decide (p∈ii 0 e.past)):=by
  unfold rj;rw[List.countP_map];refine List.countP_congr fun x v=>?_;simp only[mO,hf x v,he,Bool.true_and,Function.comp,decide_eq_true_eq];exact(tI u).symm
 rw[h1,h2];have:=Fu (p:=fun p=>decide (p∈ii 0 e.past)) (fun x=>decide_eq_true_iff) hn (wZ e.past 0);constructor
 ·intro h r n z;have:=this.1 (by omega) (r,n) ((tI u).2 z);obtain⟨x,v,y⟩:=List.mem_map.1 this;exact⟨x,v,y⟩
 ·intro h
  have:=this.2 (fun p D=>by
   obtain⟨x,v,y⟩:=h p.1 p.2 ((tI u).1 D);exact List.mem_map.2 ⟨x,v,y⟩)
  omega
def yI{l:List Ev}(hn:(l.map nm).Nodup):∀{x y:Ev},x∈l->y∈l->nm x=nm y->x=y:=by
 induction l with
 |nil=>intro x y u;cases u
 |cons z l D=>
  intro x y u v e;rw[List.map_cons,List.nodup_cons]at hn;rcases List.mem_cons.1 u with h1|h1 <;>rcases List.mem_cons.1 v with h2|h2
  ·rw[h1,h2]
  ·subst h1;exact absurd (List.mem_map.2 ⟨y,h2,e.symm⟩) hn.1
  ·subst h2;exact absurd (List.mem_map.2 ⟨x,h1,e⟩) hn.1
  ·exact D hn.2 h1 h2 e
structure wb (l:List Ev) (e:Ev):Prop where
 inside:∀x∈l,mO x e=true->eY x.past e.past=true/\x.t <e.t
 count:(rj l e:Int)=qs e.past
def CE{l:List Ev}(Z:l.length<=1024)(u:∀e∈l,bU e=true)(D:∀e∈l,∀x∈l,e.past.length=x.past.length)(v:(l.map nm).Nodup):ClosedP l↔∀e∈l,wb l e:=by
 constructor
 ·intro h e z;have U:=u e z;refine⟨fun x G J=>?_,(yy u v U).2 fun r n O=>?_⟩
  ·simp only[mO,Bool.and_eq_true]at J;obtain⟨y,V,Q,h1,h2⟩:=h.down e z _ _ J.2.2;obtain rfl:=yI v V G Q;exact⟨h1,h2⟩
  ·obtain⟨x,G,I,_⟩:=h.down e z r n O;exact⟨x,G,I⟩
 ·intro h;refine⟨Z,u,D,v,fun e z r n O=>?_⟩;obtain⟨x,G,I⟩:=(yy u v (u e z)).1 (h e z).count r n O
  have J:mO x e=true:=by
   simp only[nm,Prod.mk.injEq]at I;simp[mO,u x G,u e z,I.1,I.2,O]
  exact⟨x,G,I,(h e z).inside x G J⟩
section
variable {α:Type} {lt:α->α->Bool}
end
section
variable {l:List Ev} (h:ClosedP l)
include h
theorem D6{c:List Int}{r n:Int}(hh:hasS c r n=true):cG c=true/\0<=r/\r <c.length/\1<=n/\n<=c.getD r.toNat 0:=by
 simp only[hasS,Bool.and_eq_true,decide_eq_true_eq]at hh;exact hh
omit h in
theorem D7{c:List Int}{r n:Int}(h1:cG c=true)(h2:0<=r)(h3:r <c.length)(h4:1<=n)(u:n<=c.getD r.toNat 0):hasS c r n=true:=by
 simp only[hasS,h1,decide_eq_true h2,decide_eq_true h3,decide_eq_true h4,decide_eq_true u,Bool.and_self]
omit h in
end
def j1(c:List Int)(e:Ev):List Int:=c.set e.r.toNat (max (c.getD e.r.toNat 0) e.n)
def cm(m:Nat)(l:List Ev):List Int:=l.foldl j1 (List.replicate m 0)
def wQ(c:List Int)(e:Ev):(j1 c e).length=c.length:=by simp[j1]
theorem wP:∀(l:List Ev) (c:List Int),(l.foldl j1 c).length=c.length
 |[],c=>rfl
 |e::l,c=>by rw[List.foldl_cons,wP l,wQ]
def lN(m:Nat)(l:List Ev):(cm m l).length=m:=by unfold cm;rw[wP];simp
def Cp{m:Nat}{l:List Ev}{k:Nat}{e:Ev}(h:l[k]?=some e):cm m (l.take (k+1))=j1 (cm m (l.take k)) e:=qH _ _ h
def DX(c:List Int)(i j:Nat)(v:Int)(hi:i <c.length):(c.set i v).getD j 0=if i=j then v else c.getD j 0:=by
 rw[List.getD_eq_getElem?_getD,List.getD_eq_getElem?_getD,List.getElem?_set];split
 ·rename_i h;subst h;first|rfl|(rw[if_pos hi];rfl)
 ·rfl
def pZ(l:List Ev)(r:Nat)(v:Int):Prop:=0<=v/\(∀e∈l,e.r=r->e.n<=v)/\(v=0\/∃e∈l,e.r=r/\e.n=v)
theorem wO{m:Nat}{r:Nat}(hr:r <m):∀(l D:List Ev) (c:List Int),c.length=m->(∀e∈l,0<=e.r/\e.r <m/\1<=e.n)->pZ D r (c.getD r 0)->pZ (D++l) r ((l.foldl j1 c).getD r 0)
 |[],D,c,_,_,h=>by simpa using h
 |e::l,D,c,Q,J,h=>by
  obtain⟨h1,h2,h3⟩:=J e (by simp);have:=wO hr l (D++[e]) (j1 c e) (by rw[wQ,Q]) (fun x u=>J x (by simp[u])) ?_
  ·simpa using this
  ·obtain⟨O,G,y⟩:=h;unfold j1;rw[DX _ _ _ _ (by omega)];split
   ·rename_i I;rw[I];refine⟨by omega,fun x u v=>?_,?_⟩
    ·rcases List.mem_append.1 u with u|u
     ·have:=G x u v;omega
     ·obtain rfl:x=e:=by simpa using u
      omega
    ·by_cases U:c.getD r 0<=e.n
     ·exact .inr ⟨e,by simp,by omega,by omega⟩
     ·rcases y with y|⟨x,u,v,z⟩
      ·omega
      ·exact .inr ⟨x,by simp[u],v,by omega⟩
   ·rename_i I;refine⟨O,fun x u v=>?_,?_⟩
    ·rcases List.mem_append.1 u with u|u
     ·exact G x u v
     ·obtain rfl:x=e:=by simpa using u
      omega
    ·rcases y with y|⟨x,u,v,z⟩
     ·exact .inl y
     ·exact .inr ⟨x,by simp[u],v,z⟩
def Co{m:Nat}{l:List Ev}{r:Nat}(hr:r <m)(hl:∀e∈l,0<=e.r/\e.r <m/\1<=e.n):pZ l r ((cm m l).getD r 0):=by
 have:=wO hr l [] (List.replicate m 0) (by simp) hl ⟨?_,by simp,.inl ?_⟩
 ·rw[List.nil_append]at this;exact this
 ·rw[List.getD_eq_getElem?_getD,List.getElem?_replicate,if_pos hr];exact Int.le_refl _
 ·rw[List.getD_eq_getElem?_getD,List.getElem?_replicate,if_pos hr];rfl
def qI{e:Ev}(h:bU e=true):0<=e.r/\e.r <e.past.length/\e.n=e.past.getD e.r.toNat 0+1/\e.n<=1024:=by
 simp only[bU,iS,cD,Bool.and_eq_true,decide_eq_true_eq]at h;omega
def qK{c:List Int}(hv:cG c=true)(k:Nat):0<=c.getD k 0/\c.getD k 0<=1024:=by
 rcases Nat.lt_or_ge k c.length with h1|h1
 ·have u:c[k]?=some c[k]:=List.getElem?_eq_getElem h1;rw[dt u];exact rA hv u
 ·rw[List.getD_eq_getElem?_getD,List.getElem?_eq_none h1];simp
def IY{c:List Int}(h1:1<=c.length)(v:c.length<=5)(h:∀k,k <c.length->0<=c.getD k 0/\c.getD k 0<=1024):cG c=true:=by
 simp only[cG,Bool.and_eq_true,decide_eq_true_eq,List.all_eq_true];refine⟨⟨fun n y=>?_,h1⟩,v⟩;obtain⟨k,u,rfl⟩:=List.mem_iff_getElem.1 y;have:=h k u;rw[dt (List.getElem?_eq_getElem u)]at this;simp[mg,this]
def getD_set_ne{l:List Int}{i j:Nat}{x:Int}(h:i≠j):(l.set i x).getD j 0=l.getD j 0:=by
 rw[List.getD_eq_getElem?_getD,List.getD_eq_getElem?_getD,List.getElem?_set_ne h]
structure Wr where
 e:Ev
 u:bn
def iH(m:Md)(v:Int)(e:Ev):Option bn:=if e.k=0 then((m.aJ.getD e.a.toNat ⟨0,[],⟨[],[],[]⟩⟩).eff.aQ.reverse.find? fun u=>decide (u.cell=v))else none
def cn(m:Md)(l:List Ev)(u:Int):List Wr:=l.filterMap fun e=>(iH m u e).map (Wr.mk e)
def bO(w:Wr)(l:List Wr)(v:Int):Bool:=l.any fun x=>decide (x.u.kind=v)&&hasS x.e.past w.e.r w.e.n
def aX(l:List Wr)(v:Int):List Wr:=l.filter fun w=>decide (w.u.kind=v)
def kQ(b:Bool):List Int:=if b then[1]else[0]
def ir(t:Tb):Int:=min (max 0 t.lo) t.hi
def jF(a b:Wr):Bool:=decide (b.e.t <a.e.t)||(decide (b.e.t=a.e.t)&&decide (b.e.r <a.e.r))
def dx:Wr->List Wr->Wr
 |w,[]=>w
 |w,x::l=>dx (if jF x w then x else w) l
def bx:List Int->List Int
 |[]=>[]
 |[x]=>[x]
 |x::y::l=>if x=y then bx (y::l)else x::bx (y::l)
def lj(l:List Int):List Int:=l.mergeSort fun x y=>decide (x<=y)
def ku(l:List Wr):List Int:=((aX l 2).filter fun w=>!bO w l 2).map (·.u.value)
def cS(t:Tb)(l:List Wr):List Int:=
 if t.kind=2 then kQ ((aX l 0).any fun w=>!bO w l 1)
 else if t.kind=3 then kQ (decide (aX l 0≠[])&&!(aX l 1).any fun w=>!bO w l 0)
 else if t.kind=4 then(match aX l 2 with
  |[]=>[ir t]
  |w::r=>[(dx w r).u.value])
 else if ku l=[]then[ir t]else bx (lj (ku l))
def JF{a b:Wr}:jF a b=true↔b.e.t <a.e.t\/(b.e.t=a.e.t/\b.e.r <a.e.r):=by
 unfold jF;simp only[Bool.or_eq_true,Bool.and_eq_true,decide_eq_true_eq]
theorem yo:∀(w:Wr) (l:List Wr),dx w l∈w::l
 |w,[]=>by simp[dx]
 |w,x::l=>by
  unfold dx;have:=yo (if jF x w then x else w) l;rcases List.mem_cons.1 this with h|h
  ·rw[h];split <;>simp
  ·exact List.mem_cons_of_mem _ (List.mem_cons_of_mem _ h)
theorem yn:∀(w:Wr) (l:List Wr),∀x∈w::l,jF x (dx w l)=false
 |w,[],x,v=>by
  obtain rfl:x=w:=by simpa using v
  rw[<- Bool.not_eq_true,dx,JF];omega
 |w,y::l,x,v=>by
  unfold dx;have D:=yn (if jF y w then y else w) l;have u:=D _ (List.mem_cons_self ..);rcases List.mem_cons.1 v with rfl|v
  ·cases z:jF y x with
   |true=>
    simp only[z,if_true]at u⊢;rw[<- Bool.not_eq_true,JF]at u⊢;rw[JF]at z;omega
   |false=>
    simp only[z,Bool.false_eq_true,if_false]at u⊢;exact u
  ·rcases List.mem_cons.1 v with rfl|v
   ·cases z:jF x w with
    |true=>
     simp only[z,if_true]at u⊢;exact u
    |false=>
     simp only[z,Bool.false_eq_true,if_false]at u⊢;rw[<- Bool.not_eq_true,JF]at u z⊢;omega
   ·exact D x (List.mem_cons_of_mem _ v)
def re{m:Md}{l:List Ev}{c:Int}{w:Wr}:w∈cn m l c↔w.e∈l/\iH m c w.e=some w.u:=by
 unfold cn;rw[List.mem_filterMap];constructor
 ·rintro⟨e,y,h⟩
  cases v:iH m c e with
  |none=>rw[v]at h;cases h
  |some u=>rw[v]at h;cases h;exact⟨y,v⟩
 ·rintro⟨y,v⟩;exact⟨w.e,y,by rw[v];rfl⟩
def dj(S:List Int)(t:Tb):List Tb:=if bz t.kind=true then[]else List.replicate (bp S t.aB).toNat t
def fE(S:List Int)(l:List Tb):List Tb:=l.flatMap (dj S)
def lz(m:Md)(l:List Ev):List (List Int):=(fE m.aq m.tables).mapIdx fun i t=>cS t (cn m l (i:Int))
section
variable {W:List Wr} {w:Wr} (h1:∀x∈W,hasS w.e.past x.e.r x.e.n=true) (h2:∀x∈W,hasS x.e.past w.e.r w.e.n=false) (h3:hasS w.e.past w.e.r w.e.n=false) (h4:∀x∈W,x.e.t <w.e.t)
include h2 h3 in
theorem IE(k:Int):bO w (W++[w]) k=false:=by
 rw[<- Bool.not_eq_true,bO,List.any_eq_true];rintro⟨x,v,u⟩;rw[Bool.and_eq_true]at u;rcases List.mem_append.1 v with v|v
 ·rw[h2 x v]at u;cases u.2
 ·obtain rfl:x=w:=by simpa using v
  rw[h3]at u;cases u.2
include h1 in
theorem En{x:Wr}(hx:x∈W):bO x (W++[w]) w.u.kind=true:=by
 rw[bO,List.any_eq_true];exact⟨w,by simp,by rw[h1 x hx];simp⟩
theorem FG(k:Int):aX (W++[w]) k=aX W k++if w.u.kind=k then[w]else[]:=by
 unfold aX;rw[List.filter_append];congr 1;by_cases h:w.u.kind=k <;>simp[h]
theorem nP{l:List Wr}{k:Int}{x:Wr}:x∈aX l k↔x∈l/\x.u.kind=k:=by
 unfold aX;rw[List.mem_filter];simp
include h1 h2 h3 h4 in
theorem I0{t:Tb}(I:t.kind=2\/t.kind=3->w.u.kind=0\/w.u.kind=1)(Z:¬(t.kind=2\/t.kind=3)->w.u.kind=2):cS t (W++[w])=[if w.u.kind=0 then 1 else if w.u.kind=1 then 0 else w.u.value]:=by
 have hu:=IE h2 h3;have hs:=fun x G=>En h1 (x:=x) G
 have O:∀k k':Int,w.u.kind=k->((aX (W++[w]) k).any fun x=>!bO x (W++[w]) k')=true:=fun k k' y=>by
  rw[List.any_eq_true];exact⟨w,nP.2 ⟨by simp,y⟩,by rw[hu];rfl⟩
 have af:∀k:Int,w.u.kind≠k->((aX (W++[w]) k).any fun x=>!bO x (W++[w]) w.u.kind)=false:=fun k y=>by
  rw[<- Bool.not_eq_true,List.any_eq_true];rintro⟨x,G,hb⟩;obtain⟨D,ak⟩:=nP.1 G;rcases List.mem_append.1 D with D|D
  ·rw[hs x D]at hb;cases hb
  ·obtain rfl:x=w:=by simpa using D
   exact y ak
 unfold cS;by_cases k2:t.kind=2
 ·rw[if_pos k2];rcases I (.inl k2)with y|y
  ·rw[O 0 1 y,y];rfl
  ·have:=af 0 (by omega);rw[y]at this;rw[this,y];rfl
 ·rw[if_neg k2];by_cases k3:t.kind=3
  ·rw[if_pos k3];rcases I (.inr k3)with y|y
   ·have h:=af 1 (by omega);rw[y]at h
    have ag:aX (W++[w]) 0≠[]:=fun he=>by
     have:w∈aX (W++[w]) 0:=nP.2 ⟨by simp,y⟩;rw[he]at this;cases this
    rw[h,decide_eq_true ag,y];rfl
   ·rw[O 1 0 y,y];simp[kQ]
  ·rw[if_neg k3];have y:=Z (by omega);have ad:[if w.u.kind=0 then 1 else if w.u.kind=1 then 0 else w.u.value]=[w.u.value]:=by rw[y];rfl
   rw[ad];by_cases k4:t.kind=4
   ·rw[if_pos k4];have z:w∈aX (W++[w]) 2:=nP.2 ⟨by simp,y⟩
    cases hl:aX (W++[w]) 2 with
    |nil=>rw[hl]at z;cases z
    |cons v r=>
     rw[hl]at z;have Q:=yn v r w z;have U:=yo v r;rw[<- hl]at U;obtain⟨V,_⟩:=nP.1 U
     have he:dx v r=w:=by
      rcases List.mem_append.1 V with G|G
      ·rw[<- Bool.not_eq_true,JF]at Q;exact absurd (.inl (h4 _ G)) Q
      ·simpa using G
     dsimp only;rw[he]
   ·rw[if_neg k4]
    have J:ku (W++[w])=[w.u.value]:=by
     unfold ku;rw[FG,if_pos y,List.filter_append,List.map_append]
     have e1:(aX W 2).filter (fun x=>!bO x (W++[w]) 2)=[]:=by
      rw[List.filter_eq_nil_iff];intro x G;have:=hs x (nP.1 G).1;rw[y]at this;rw[this];simp
     have e2:[w].filter (fun x=>!bO x (W++[w]) 2)=[w]:=by
      rw[List.filter_cons,hu];rfl
     rw[e1,e2];rfl
    rw[J,if_neg (by simp)];unfold lj;rw[List.mergeSort_singleton];rfl
end
def I1{t:Tb}:cS t []=[if t.kind=2\/t.kind=3 then 0 else ir t]:=by
 unfold cS;by_cases u:t.kind=2
 ·rw[if_pos u,if_pos (.inl u)];rfl
 ·rw[if_neg u];by_cases v:t.kind=3
  ·rw[if_pos v,if_pos (.inr v)];rfl
  ·have z:¬(t.kind=2\/t.kind=3):=fun h=>h.elim u v;rw[if_neg v,if_neg z];by_cases y:t.kind=4
   ·rw[if_pos y];rfl
   ·rw[if_neg y];exact if_pos rfl
def li(l:List bH)(O:List Int)(t:Int):Bool:=!l.any fun h=>decide (h.table=t)&&decide (h.to∈O)
def Ag{l:List bH}{O:List Int}{t:Int}:li l O t=true↔∀h∈l,h.table=t->h.to∉O:=by
 unfold li;rw[Bool.not_eq_true',<- Bool.not_eq_true,List.any_eq_true];constructor
 ·intro h x v z y;exact h ⟨x,v,by simp[z,y]⟩
 ·rintro h ⟨x,v,u⟩;simp only[Bool.and_eq_true,decide_eq_true_eq]at u;exact h x v u.1 u.2
def uH{l:List bH}{a b:Int}:bS l 0 a b=true↔a=b:=by simp[bS]
def ny{l:List bH}{n:Nat}{a b:Int}:bS l (n+1) a b=true↔a=b\/∃h∈l,h.table=a/\bS l n h.to b=true:=by
 show(decide (a=b)||l.any fun h=>decide (h.table=a)&&bS l n h.to b)=true↔_
 rw[Bool.or_eq_true,decide_eq_true_eq,List.any_eq_true];simp only[Bool.and_eq_true,decide_eq_true_eq]
def pj{l:List bH}(n:Nat)(a:Int):bS l n a a=true:=by
 cases n with
 |zero=>exact uH.2 rfl
 |succ n=>exact ny.2 (.inl rfl)
theorem yd{l:List bH}{h:bH}(hh:h∈l):∀{n:Nat} {a:Int},bS l n a h.table=true->bS l (n+1) a h.to=true
 |0,a,u=>by
  have:=uH.1 u;exact ny.2 (.inr ⟨h,hh,this.symm,pj _ _⟩)
 |n+1,a,u=>by
  rcases ny.1 u with rfl|⟨x,hx,ht,hl'⟩
  ·exact ny.2 (.inr ⟨h,hh,rfl,pj _ _⟩)
  ·exact ny.2 (.inr ⟨x,hx,ht,yd hh hl'⟩)
def nS(l:List bH)(h:bH)(x:Int):Prop:=(∃i,bS l i h.to x=true)/\∃j,bS l j x h.table=true
def FL{l:List bH}{h:bH}{n:Nat}(hh:h∈l)(hc:bS l n h.to h.table=true){x:Int}(hx:nS l h x):∃g∈l,g.table=x/\nS l h g.to:=by
 obtain⟨⟨i,v⟩,j,u⟩:=hx
 cases j with
 |zero=>
  have:=uH.1 u;exact⟨h,hh,this.symm,⟨0,pj _ _⟩,n,hc⟩
 |succ j=>
  rcases ny.1 u with rfl|⟨g,hg,hgt,hgl⟩
  ·exact⟨h,hh,rfl,⟨0,pj _ _⟩,n,hc⟩
  ·exact⟨g,hg,hgt,⟨i+1,yd hg (by rw[hgt];exact v)⟩,j,hgl⟩
def FK{l:List bH}{h:bH}{n:Nat}(hh:h∈l)(hc:bS l n h.to h.table=true){O:List Int}(y:∀x,nS l h x->x∈O){t:Int}(ht:nS l h t):li l O t=false:=by
 rw[<- Bool.not_eq_true,Ag];intro hs;obtain⟨g,z,v,u⟩:=FL hh hc ht;exact hs g z v (y _ u)
def FM{l:List bH}{h:bH}{n:Nat}(hc:bS l n h.to h.table=true):nS l h h.table:=⟨⟨n,hc⟩,0,pj _ _⟩
def sP(l:List bH)(n:Nat)(O:List Int):Prop:=∀h∈l,bS l n h.to h.table=true->∀x,nS l h x->x∈O
structure kO (l:List bH) (n:Nat) (O seen cur:List Int):Prop where
 sub:cur.Sublist O
 gone:∀t∈seen,li l O t=true->t∉cur
 mX:sP l n O->sP l n cur
def kO.start{l:List bH}{n:Nat}{O:List Int}:kO l n O [] O:=⟨List.Sublist.refl _,fun _ h=>absurd h (by simp),id⟩
def HL{l:List bH}{O u:List Int}{t:Int}(h:∀x∈u,x∈O)(hs:li l O t=true):li l u t=true:=by
 rw[Ag]at hs⊢;exact fun g z v y=>hs g z v (h _ y)
def kO.fB{l:List bH}{n:Nat}{O u v:List Int}{t:Int}(h:kO l n O u v)(hs:li l v t=false):kO l n O (t::u) v where
 sub:=h.sub
 gone:=fun x z D=>by
  rcases List.mem_cons.1 z with rfl|z
  ·exact absurd (HL (fun y G=>h.sub.subset G) D) (by rw[hs];decide)
  ·exact h.gone x z D
 mX:=h.mX
def kO.drop{l:List bH}{n:Nat}{O v y:List Int}{t:Int}(h:kO l n O v y)(hs:li l y t=true):kO l n O (t::v) (y.filter fun x=>!decide (x=t)) where
 sub:=(List.filter_sublist).trans h.sub
 gone:=fun x z D U=>by
  obtain⟨J,Q⟩:=List.mem_filter.1 U;rcases List.mem_cons.1 z with rfl|z
  ·simp at Q
  ·exact h.gone x z D J
 mX:=fun D g I G x z=>by
  have u:=h.mX D;refine List.mem_filter.2 ⟨u g I G x z,?_⟩
  have:x≠t:=by
   rintro rfl;rw[FK I G (u g I G) z]at hs;cases hs
  simpa using this
structure wc (l:List bH) (n k:Nat) (O:List Int):Prop where
 JA:O.Nodup
 JD:∀t∈O,0<=t/\t <n
 iQ:(∀h∈l,bS l n h.to h.table=false)->O.length<=l.length - k
 mX:sP l n O
def wc.done{l:List bH}{n:Nat}{O:List Int}(h:wc l n l.length O):decide (O.length=0)=l.all fun g=>!bS l n g.to g.table:=by
 cases z:l.all fun g=>!bS l n g.to g.table with
 |true=>
  have y:∀g∈l,bS l n g.to g.table=false:=fun g u=>by simpa using List.all_eq_true.1 z g u
  have:=h.iQ y;exact decide_eq_true (by omega)
 |false=>
  rw[<- Bool.not_eq_true,List.all_eq_true]at z
  have:∃g∈l,bS l n g.to g.table=true:=by
   apply Classical.byContradiction;intro I;apply z;intro g u
   cases v:bS l n g.to g.table with
   |false=>rfl
   |true=>exact absurd ⟨g,u,v⟩ I
  obtain⟨g,u,v⟩:=this;have D:=h.mX g u v _ (FM v);have:O.length≠0:=by intro G;rw[List.length_eq_zero_iff.1 G]at D;cases D
  simpa using this
end Go.Proofs.YtgbfedgghjcdcaaGreatDoor
