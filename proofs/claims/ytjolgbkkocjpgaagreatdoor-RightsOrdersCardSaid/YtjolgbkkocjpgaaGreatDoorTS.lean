/- The plain functions that the clocks' texts compute,with no program in sight. No condition. -/
import Derived.Test.YtjolgbkkocjpgaaGreatDoorBase5
import Derived.Lib.ItoaNum
import Derived.Lib.Join
import Derived.Lib.AtoiTie
import Derived.Lib.SplitLaws
import Derived.Lib.Split
import Derived.Lib.Strings
import Derived.Lib.IndexLaws
import Derived.IntWalk
set_option linter.defProp false
set_option linter.unusedSimpArgs false
set_option linter.unusedVariables false
set_option linter.unusedSectionVars false
namespace Go.Proofs.YtjolgbkkocjpgaaGreatDoor
def qh(n:Int):Bool:=decide (0<=n)&&decide (n<=1024)
def iN(xs:List Int):Bool:=xs.all qh&&decide (1<=xs.length)&&decide (xs.length<=5)
def Jl(p:Int×Int):Bool:=decide (p.1<=p.2)
def Cy(a b:List Int):Bool:=(a.zip b).all Jl
def qi{α β:Type}(g:β->α->β)(b:β){l:List α}{k:Nat}{x:α}(h:l[k]?=some x):(l.take (k+1)).foldl g b=g ((l.take k).foldl g b) x:=by
 rw[List.take_add_one,h];simp[List.foldl_append]
def yn(xs:List Int):Int:=xs.foldl (·+·) 0
def uL(xs:List Int):Int:=if iN xs then yn xs else 0
def hasS(c:List Int)(r n:Int):Bool:=iN c&&(decide (0<=r)&&(decide (r <c.length)&&(decide (1<=n)&&decide (n<=c.getD r.toNat 0))))
def Jm{n:Int}(h:qh n=true):0<=n/\n<=1024:=by simp[qh]at h;omega
def Cz{xs:List Int}(h:iN xs=true){k:Nat}{n:Int}(hn:xs[k]?=some n):0<=n/\n<=1024:=by
 simp only[iN,Bool.and_eq_true,List.all_eq_true]at h;exact Jm (h.1.1 n (List.mem_of_getElem? hn))
structure Sp where
 r:Int
 f:Int
 t:Int
deriving DecidableEq
def eR{xs:List Int}{k:Nat}{n:Int}(h:xs[k]?=some n):xs.getD k 0=n:=by rw[List.getD_eq_getElem?_getD,h];rfl
def dA(n l h:Int):Bool:=decide (l<=n)&&decide (n<=h)
def mK(e:Ev):Bool:=iN e.past&&(dA e.r 0 ((e.past.length:Int) - 1)&&(decide (e.n=e.past.getD e.r.toNat 0+1)&&(decide (e.n<=1024)&&dA e.t 1 1073741824)))
def qj(e:Ev):Bool:=decide (e.gk=0)&&(decide (e.gi=0)&&(decide (e.ge=0)&&(decide (e.ga=0)&&decide (e.to=0))))
def qk(e:Ev):Bool:=dA e.a 0 255&&dA e.pl 0 1024&&dA e.se 1 1048576
def uM(e:Ev):Bool:=dA e.pl 1 1024&&dA e.se 1 1048576
def sb(e:Ev):Bool:=dA e.gk 0 1&&dA e.ge 0 (if e.gk=1 then 5 else 0)&&dA e.gi 0 1023&&dA e.ga 1 1000000&&dA e.to 0 ((e.past.length:Int) - 1)&&decide (e.to≠e.r)
def dK(e:Ev):Bool:=mK e&&(if e.k=0 then qk e&&qj e else if e.k=1 then sb e&&(decide (e.a=0)&&(decide (e.pl=0)&&decide (e.se=0)))else if e.k=2 then uM e&&(decide (e.a=0)&&qj e)else false)
open Go
def bR(b:UInt8):Bool:=decide (48<=b.toNat)&&decide (b.toNat<=57)
def Jn(a:Nat)(l:List UInt8):Nat:=l.foldl (fun a b=>10*a+(b.toNat - 48)) a
def dv(l:List UInt8):Nat:=Jn 0 l
structure Qo (e:Ev):Prop where
 vp:iN e.past=true
 r0:0<=e.r
 r1:e.r<=9999
 n0:0<=e.n
 n1:e.n<=9999
 t0:0<=e.t
 t1:e.t<=9999999999
 k:e.k=0\/e.k=1\/e.k=2
 k0:e.k=0->(0<=e.a/\e.a<=255/\0<=e.pl/\e.pl<=1024/\0<=e.se/\e.se<=1048576)/\e.gk=0/\e.gi=0/\e.ge=0/\e.ga=0/\e.to=0
 k2:e.k=2->(0<=e.pl/\e.pl<=1024/\0<=e.se/\e.se<=1048576)/\e.a=0/\e.gk=0/\e.gi=0/\e.ge=0/\e.ga=0/\e.to=0
 k1:e.k=1->((e.gk=0\/e.gk=1)/\0<=e.gi/\e.gi<=1023/\0<=e.ge/\e.ge<=5/\0<=e.ga/\e.ga<=1000000/\0<=e.to/\e.to<=9999)/\e.a=0/\e.pl=0/\e.se=0
def CA(l:List Int)(k:Nat):Int:=l.getD k 0
def pos(c:UInt8)(s:List UInt8):Nat:=(s.takeWhile fun b=>b !=c).length
def ec(b:UInt8):Bool:=decide (97<=b.toNat)&&decide (b.toNat<=122)
def dp(b:UInt8):Bool:=(decide (b.toNat=9)||decide (b.toNat=10))||(decide (b.toNat=13)||decide (b.toNat=32))
def b7(b:UInt8):Bool:=ec b ||(bR b ||decide (b.toNat=95))
def aT:Bool->List UInt8->Nat
 |_,[]=>0
 |true,b::r=>if b.toNat=10 then aT false r+1 else aT true r+1
 |false,b::r=>if dp b=true then aT false r+1 else if b.toNat=35 then aT true r+1 else 0
def aP(p:UInt8->Bool):List UInt8->Nat
 |[]=>0
 |b::r=>if p b=true then aP p r+1 else 0
def cT:List (List UInt8):=[[115,111,114,116],[114,101,108,97,116,105,111,110],[99,111,117,110,116,101,114],[115,101,116],[114,101,103,105,115,116,101,114],[105,110,118,97,114,105,97,110,116],[111,112,101,114,97,116,105,111,110],[107,101,121],[114,101,102,101,114,101,110,99,101],[116,111],[99,111,117,110,116],[97,99,121,99,108,105,99],[97,108,108],[115,117,109],[105,110],[97,100,100,119,105,110,115],[114,101,109,111,118,101,119,105,110,115],[108,97,115,116],[109,117,108,116,105],[104,105,100,101],[111,114,100,101,114,101,100],[114,101,113,117,105,114,101],[104,111,108,100],[105,110,115,101,114,116],[100,101,108,101,116,101],[97,100,100],[102,114,111,109],[112,117,116],[100,114,111,112],[97,115,115,105,103,110],[102,111,114],[119,104,101,114,101],[97,110,100],[111,114],[110,111,116]]
def pc:List (List UInt8):=[[61,61],[33,61],[60,61],[62,61],[46,46],[60],[62],[61],[43],[45],[42],[40],[41],[123],[125],[44],[58],[59]]
def eC:List (List UInt8)->List UInt8->Nat
 |[],_=>0
 |s::r,t=>if s.length<=t.length/\t.take s.length=s then s.length else eC r t
def gO(t:List UInt8):Nat:=eC pc t
def ed:List UInt8->Nat
 |[]=>0
 |b::r=>if(dp b=false/\b.toNat≠35)/\(ec b=false/\bR b=false/\gO (b::r)=0)then ed r+1 else 0
def eS:List UInt8->Int×Nat
 |[]=>(0,0)
 |b::r=>
  if ec b=true then(if(b::r).take (aP b7 (b::r))∈cT then 2 else 1,aP b7 (b::r))
  else if bR b=true then(3,aP bR (b::r))
  else if 0 <gO (b::r)then(4,gO (b::r))
  else(5,ed (b::r))
structure Tok where
 kind:Int
 yo:Nat
 at_:Nat
 ql:Nat
def jk(l:List UInt8):Nat->Nat->List Tok
 |0,_=>[]
 |f+1,q=>if q+aT false (l.drop q)<l.length then⟨(eS (l.drop (q+aT false (l.drop q)))).1,q,q+aT false (l.drop q),q+aT false (l.drop q)+(eS (l.drop (q+aT false (l.drop q)))).2⟩::jk l f (q+aT false (l.drop q)+(eS (l.drop (q+aT false (l.drop q)))).2)else[⟨0,q,l.length,l.length⟩]
def pd(l:List UInt8):List Tok:=jk l (l.length+1) 0
def nK(l:List UInt8):Int:=if 4096 <l.length then 0 else match pd l with
 |[t,_]=>if t.at_=0/\t.ql=l.length then t.kind else 0
 |_=>0
def nL(l:List UInt8):Bool:=decide (nK l=1)&&decide (l.length<=16)
theorem qm:∀(c:Bool) (l:List UInt8),aT c l<=l.length
 |_,[]=>by simp[aT]
 |true,b::r=>by
  unfold aT;have h1:=qm false r;have h2:=qm true r;split <;>simp <;>omega
 |false,b::r=>by
  unfold aT;have h1:=qm false r;have h2:=qm true r;split
  ·simp;omega
  ·split <;>simp;omega
theorem qn(p:UInt8->Bool):∀(l:List UInt8),aP p l<=l.length
 |[]=>by simp[aP]
 |b::r=>by
  unfold aP;have h1:=qn p r;split <;>simp;omega
theorem yp:∀(S:List (List UInt8)) (t:List UInt8),eC S t<=t.length
 |[],_=>by simp[eC]
 |s::r,t=>by
  unfold eC;split
  ·rename_i h;exact h.1
  ·exact yp r t
theorem CB:∀(l:List UInt8),ed l<=l.length
 |[]=>by simp[ed]
 |b::r=>by
  unfold ed;have h1:=CB r;split <;>simp;omega
def uN(b:UInt8)(r:List UInt8):eS (b::r)=if ec b=true then(if(b::r).take (aP b7 (b::r))∈cT then 2 else 1,aP b7 (b::r))else if bR b=true then(3,aP bR (b::r))else if 0 <gO (b::r)then(4,gO (b::r))else(5,ed (b::r)):=by rw[eS]
def Jo(l:List UInt8):(eS l).2<=l.length:=by
 cases l with
 |nil=>simp[eS]
 |cons b r=>
  rw[uN];split
  ·exact qn _ (b::r)
  ·split
   ·exact qn _ (b::r)
   ·split
    ·exact yp _ (b::r)
    ·exact CB (b::r)
def CC:∀(l:List UInt8),∀b r,l.drop (aT false l)=b::r->dp b=false/\b.toNat≠35
 |l=>by
  suffices H:∀(l:List UInt8) (c:Bool) b r,l.drop (aT c l)=b::r->dp b=false/\b.toNat≠35 from H l false
  intro l
  induction l with
  |nil=>intro c b r h;simp[aT]at h
  |cons x l u=>
   intro c b r h
   cases c with
   |true=>
    unfold aT at h;split at h
    ·exact u false b r (by simpa using h)
    ·exact u true b r (by simpa using h)
   |false=>
    unfold aT at h;split at h
    ·exact u false b r (by simpa using h)
    ·split at h
     ·exact u true b r (by simpa using h)
     ·rename_i h1 h2;rw[List.drop_zero,List.cons.injEq]at h;obtain⟨rfl,_⟩:=h;exact⟨by simpa using h1,h2⟩
def Jp{b:UInt8}{r:List UInt8}(h1:dp b=false)(h2:b.toNat≠35):0 <(eS (b::r)).2:=by
 rw[uN];split
 ·rename_i h;have:b7 b=true:=by simp[b7,h]
  simp[aP,this]
 ·split
  ·rename_i h;simp[aP,h]
  ·split
   ·rename_i h;exact h
   ·rename_i h3 h4 u;have h3:ec b=false:=by simpa using h3
    have h4:bR b=false:=by simpa using h4
    show 0 <ed (b::r)
    unfold ed;rw[if_pos ⟨⟨h1,h2⟩,h3,h4,by omega⟩];omega
section
variable {α:Type} {l:List α} {q:Nat} {x:α}
def bS(h:l[q]?=some x):l.drop q=x::l.drop (q+1):=by
 obtain⟨u,rfl⟩:=List.getElem?_eq_some_iff.1 h;exact List.drop_eq_getElem_cons u
def fE(h:l.length<=q):l.drop q=[]:=List.drop_of_length_le h
end
section
variable {l:List UInt8} {q:Nat} {b:UInt8}
def CD(h:l[q]?=some b)(hw:dp b=true):aT false (l.drop q)=aT false (l.drop (q+1))+1:=by
 rw[bS h,aT,if_pos hw]
def Jq(h:l[q]?=some b)(hw:dp b=false)(u:b.toNat=35):aT false (l.drop q)=aT true (l.drop (q+1))+1:=by
 rw[bS h,aT,if_neg (by simp[hw]),if_pos u]
def CE(h:l[q]?=some b)(hw:dp b=false)(u:¬b.toNat=35):aT false (l.drop q)=0:=by
 rw[bS h,aT,if_neg (by simp[hw]),if_neg u]
def uO(c:Bool)(h:l.length<=q):aT c (l.drop q)=0:=by
 rw[fE h,aT]
def CF(h:l[q]?=some b)(u:¬b.toNat=10):aT true (l.drop q)=aT true (l.drop (q+1))+1:=by
 rw[bS h,aT,if_neg u]
def Jr(h:l[q]?=some b)(u:b.toNat=10):aT true (l.drop q)=aT false (l.drop q):=by
 rw[bS h,aT,aT,if_pos u,if_pos (by simp[dp,u])]
def Js(h:l[q]?=some b)(u:b.toNat=35):aT true (l.drop q)=aT false (l.drop q):=by
 rw[CF h (by omega),Jq h (by simp[dp,u]) u]
def CG{p:UInt8->Bool}(h:l[q]?=some b)(hp:p b=true):aP p (l.drop q)=aP p (l.drop (q+1))+1:=by
 rw[bS h,aP,if_pos hp]
def CH{p:UInt8->Bool}(h:l[q]?=some b)(hp:p b=false):aP p (l.drop q)=0:=by
 rw[bS h,aP,if_neg (by simp[hp])]
def CI{p:UInt8->Bool}(h:l.length<=q):aP p (l.drop q)=0:=by
 rw[fE h,aP]
def nM(l:List UInt8)(q:Nat)(b:UInt8):Bool:=(!dp b&&!decide (b.toNat=35))&&(!ec b&&(!bR b&&decide (gO (l.drop q)=0)))
def Jt(h:l[q]?=some b)(hp:nM l q b=true):ed (l.drop q)=ed (l.drop (q+1))+1:=by
 simp only[nM,bS h,Bool.and_eq_true,Bool.not_eq_true',decide_eq_false_iff_not,decide_eq_true_eq]at hp;rw[bS h,ed,if_pos ⟨hp.1,hp.2.1,hp.2.2.1,hp.2.2.2⟩]
def Ju(h:l[q]?=some b)(hp:nM l q b=false):ed (l.drop q)=0:=by
 rw[bS h,ed,if_neg];rintro⟨h1,h2,h3,h4⟩;rw[<- Bool.not_eq_true]at hp;apply hp;simp only[nM,bS h,Bool.and_eq_true,Bool.not_eq_true',decide_eq_false_iff_not,decide_eq_true_eq];exact⟨h1,h2,h3,h4⟩
def Jv(h:l.length<=q):ed (l.drop q)=0:=by rw[fE h,ed]
def Jw(h:l[q]?=some b):eS (l.drop q)=if ec b=true then(if(l.drop q).take (aP b7 (l.drop q))∈cT then 2 else 1,aP b7 (l.drop q))else if bR b=true then(3,aP bR (l.drop q))else if 0 <gO (l.drop q)then(4,gO (l.drop q))else(5,ed (l.drop q)):=by
 rw[bS h,uN]
end
def cM(l:List UInt8)(q:Nat):Nat:=q+aT false (l.drop q)
def jl(l:List UInt8)(q:Nat):Nat:=cM l q+(eS (l.drop (cM l q))).2
def yq{l:List UInt8}{q:Nat}(h:q<=l.length):q<=cM l q/\cM l q<=l.length:=by
 have:=qm false (l.drop q);simp at this;unfold cM;omega
def yr{l:List UInt8}{q:Nat}(h:cM l q <l.length):cM l q <jl l q/\jl l q<=l.length:=by
 have h1:=Jo (l.drop (cM l q));simp at h1;obtain⟨b,u⟩:∃b,l[cM l q]?=some b:=⟨_,List.getElem?_eq_getElem h⟩
 have h2:(l.drop q).drop (aT false (l.drop q))=b::l.drop (cM l q+1):=by
  rw[List.drop_drop,<- bS u];rfl
 obtain⟨h3,h4⟩:=CC (l.drop q) _ _ h2;have v:=Jp (r:=l.drop (cM l q+1)) h3 h4;rw[<- bS u]at v;unfold jl;omega
def yu{l:List UInt8}{f q:Nat}(h:cM l q <l.length):jk l (f+1) q=⟨(eS (l.drop (cM l q))).1,q,cM l q,jl l q⟩::jk l f (jl l q):=by
 rw[jk,if_pos (by exact h)];rfl
def yw{l:List UInt8}{f q:Nat}(h:¬cM l q <l.length):jk l (f+1) q=[⟨0,q,l.length,l.length⟩]:=by
 rw[jk,if_neg (by exact h)]
theorem CJ{l:List UInt8}:∀{f g q:Nat},q<=l.length->l.length <f+q->l.length <g+q->jk l f q=jk l g q
 |0,_,q,h,v,_=>by omega
 |_,0,q,h,_,y=>by omega
 |f+1,g+1,q,h,v,y=>by
  by_cases u:cM l q <l.length
  ·have h1:=yr u;have h2:=(yq h).1;rw[yu u,yu u,CJ (f:=f) (g:=g) h1.2 (by omega) (by omega)]
  ·rw[yw u,yw u]
def qo(l:List UInt8)(q:Nat):List Tok:=jk l (l.length+1 - q) q
def Jy{l:List UInt8}{q:Nat}(hq:q<=l.length)(h:cM l q <l.length):qo l q=⟨(eS (l.drop (cM l q))).1,q,cM l q,jl l q⟩::qo l (jl l q):=by
 have h1:=yr h;have h2:=(yq hq).1;unfold qo;rw[show l.length+1 - q=(l.length - q)+1 by omega,yu h,CJ (f:=l.length - q) (g:=l.length+1 - jl l q) h1.2 (by omega) (by omega)]
def Jz{l:List UInt8}{q:Nat}(hq:q<=l.length)(h:¬cM l q <l.length):qo l q=[⟨0,q,l.length,l.length⟩]:=by
 unfold qo;rw[show l.length+1 - q=(l.length - q)+1 by omega,yw h]
section
variable {S:List (List UInt8)} {k:Nat} {s t:List UInt8}
def JA(h:S[k]?=some s)(hp:s.length<=t.length/\t.take s.length=s):eC (S.drop k) t=s.length:=by
 rw[bS h,eC,if_pos hp]
def CK(h:S[k]?=some s)(hp:¬(s.length<=t.length/\t.take s.length=s)):eC (S.drop k) t=eC (S.drop (k+1)) t:=by
 rw[bS h,eC,if_neg hp]
def JB(h:S.length<=k):eC (S.drop k) t=0:=by rw[fE h,eC]
end
structure Tb where
 name:ByteArray
 kind:Int
 au:List Int
 lo:Int
 hi:Int
 first:Int
structure Tm where
 cell:Int
 bN:Int
deriving DecidableEq
structure Rw where
 a_:List Tm
 gP:Int
deriving DecidableEq
structure Cn where
 kind:Int
 jR:Int
 row:Rw
 first:Int
 size:Int
structure gq where
 name:ByteArray
 ord:Bool
 ak:List Int
structure bD where
 cell:Int
 add:Int
structure cD where
 kind:Int
 cell:Int
 value:Int
structure kU where
 delta:List bD
 hold:List Rw
 bZ:List cD
structure eD where
 op:Int
 args:List Int
 eff:kU
structure Hde where
 table:Int
 eE:Int
 to:Int
structure Md where
 ak:List Int
 tables:List Tb
 bw:List ByteArray
 cons:List Cn
 ops:List gq
 ay:List eD
 aI:List Hde
section
variable {α:Type} {p:Nat->α->Bool} {l:List α} {q:Nat} {x:α}
def aY(p:Nat->α->Bool):Nat->List α->Bool
 |_,[]=>true
 |i,x::r=>p i x&&aY p (i+1) r
def allI(p:Nat->α->Bool)(l:List α):Bool:=aY p 0 l
def qp(h:l[q]?=some x):aY p q (l.drop q)=(p q x&&aY p (q+1) (l.drop (q+1))):=by rw[bS h];rfl
def eT(h:l.length<=q):aY p q (l.drop q)=true:=by rw[fE h];rfl
theorem CL:∀{l:List α} {q:Nat},aY p q l=true↔∀k x,l[k]?=some x->p (q+k) x=true
 |[],q=>by simp[aY]
 |y::r,q=>by
  unfold aY;rw[Bool.and_eq_true,CL (l:=r) (q:=q+1)];constructor
  ·rintro⟨h1,h2⟩ k x u
   cases k with
   |zero=>cases u;exact h1
   |succ k=>have:=h2 k x (by simpa using u);rwa[show q+1+k=q+(k+1) by omega]at this
  ·intro h;exact⟨h 0 y rfl,fun k x u=>by have:=h (k+1) x (by simpa using u);rwa[show q+1+k=q+(k+1) by omega]⟩
def gQ:allI p l=true↔∀k x,l[k]?=some x->p k x=true:=by
 unfold allI;rw[CL];simp
def sd(f:α->Bool)(h:l[q]?=some x):(l.drop q).any f=(f x ||(l.drop (q+1)).any f):=by rw[bS h];rfl
def sf(f:α->Bool)(h:l.length<=q):(l.drop q).any f=false:=by rw[fE h];rfl
def iO(f:α->Bool)(h:l[q]?=some x):(l.drop q).all f=(f x&&(l.drop (q+1)).all f):=by rw[bS h];rfl
def gR(f:α->Bool)(h:l.length<=q):(l.drop q).all f=true:=by rw[fE h];rfl
end
def fR(s:ByteArray):Bool:=nL s.data.toList
def ce(l:List Int):Bool:=l.all fun n=>decide (1<=n)&&decide (n<=6)
def cg(u:List Int)(c:Int):Bool:=decide (0<=c)&&decide (c <u.length)
def cU(u v:List Int):Int:=v.foldl (fun n c=>n*u.getD c.toNat 0) 1
def bE(u v:List Int):Int:=if(decide (v.length<=3)&&ce u)&&v.all (cg u)then cU u v else 0
def bp(k:Int):Bool:=decide (k=0)||decide (k=1)
def qq(t:Tb):Bool:=(decide (t.lo<=t.hi)&&(decide (-9999<=t.lo)&&decide (t.hi<=9999)))&&(!(decide (t.kind=0)||(decide (t.kind=2)||decide (t.kind=3)))||(decide (t.lo=0)&&decide (t.hi=1)))
def bn(u:List Int)(s:Bool)(l:List Tb):Int:=l.foldl (fun n t=>if bp t.kind=s then n+bE u t.au else n) 0
def gS(v:List Int)(l:List Tb)(i:Nat)(t:Tb):Bool:=
 (!(l.take i).any fun u=>decide (u.name=t.name))&&(fR t.name&&((decide (0<=t.kind)&&decide (t.kind<=5))&&(!decide (bE v t.au=0)&&(qq t&&decide (t.first=bn v (bp t.kind) (l.take i))))))
def bH(u:List Int)(l:List Tb):Bool:=(decide (u.length<=4)&&(ce u&&decide (l.length<=12)))&&(allI (gS u l) l&&(decide (bn u true l<=128)&&decide (bn u false l<=64)))
def ee(u:List Int)(s:Bool)(t:Tb):List (Int×Int):=if bp t.kind=s then List.replicate (bE u t.au).toNat (t.lo,t.hi)else[]
def bx(u:List Int)(l:List Tb)(s:Bool):List (Int×Int):=if bH u l then l.flatMap (ee u s)else[]
def eF(u:List Int)(s:Bool)(c:Int)(t:Tb):Bool:=decide (bp t.kind=s)&&(decide (0<=c)&&(decide (0<=c - t.first)&&decide (c - t.first <bE u t.au)))
def fF(f:Tb->Bool):Nat->List Tb->Option (Nat×Tb)
 |_,[]=>none
 |i,t::r=>if f t=true then some (i,t)else fF f (i+1) r
def eU(u:List Int)(l:List Tb)(s:Bool)(c:Int):Option (Nat×Tb):=if bH u l then fF (eF u s c) 0 l else none
def uP{f:Tb->Bool}{l:List Tb}{q:Nat}{t:Tb}(h:l[q]?=some t):fF f q (l.drop q)=if f t=true then some (q,t)else fF f (q+1) (l.drop (q+1)):=by rw[bS h];rfl
def CM{f:Tb->Bool}{l:List Tb}{q:Nat}(h:l.length<=q):fF f q (l.drop q)=none:=by rw[fE h];rfl
def iP(u v:List Int):Nat->Int->List Int->List Int
 |0,_,r=>r
 |i+1,k,r=>iP u v i (k.tdiv (u.getD (v.getD i 0).toNat 0)) (r.set i (k.tmod (u.getD (v.getD i 0).toNat 0)))
def pe(u v:List Int)(k:Int):List Int:=iP u v v.length k (List.replicate v.length 0)
def cE(x m:Int):Bool:=decide (-m<=x)&&decide (x<=m)
def fj(n:Int)(l:List Tm)(i:Nat)(t:Tm):Bool:=(decide (0<=t.cell)&&decide (t.cell <n))&&((decide (i=0)||decide ((l.getD (i - 1) ⟨0,0⟩).cell <t.cell))&&(!decide (t.bN=0)&&cE t.bN 1000))
def cy(n:Int)(r:Rw):Bool:=allI (fj n r.a_) r.a_&&cE r.gP 1000000000
def gT(u:List Int)(c:Cn)(t:Tb):Bool:=decide (t.kind=0)&&(decide (t.au.length=2)&&(decide (t.au.getD 0 0=t.au.getD 1 0)&&(decide (t.first=c.first)&&decide (u.getD (t.au.getD 0 0).toNat 0=c.size))))
def jm(m:Md)(c:Cn):Bool:=(decide (c.row.a_.length=0)&&decide (c.row.gP=0))&&m.tables.any (gT m.ak c)
def mL(i:Nat)(r:Int×Int):Rw:=⟨[⟨i,-1⟩],-r.1⟩
def pf(i:Nat)(r:Int×Int):Rw:=⟨[⟨i,1⟩],r.2⟩
def JD:Rw:=⟨[],0⟩
def mM:Cn:=⟨0,0,JD,0,0⟩
def lY(cs:List Cn)(i:Nat)(r:Int×Int):Bool:=decide ((cs.getD (2*i) mM).row=mL i r)&&decide ((cs.getD (2*i+1) mM).row=pf i r)
def jn(m:Md)(n:Nat)(i:Nat)(c:Cn):Bool:=
 (decide (0<=c.jR)&&decide (c.jR <m.bw.length))&&((decide (c.kind=0)&&(decide (c.first=0)&&(decide (c.size=0)&&cy n c.row)))||(decide (2*n<=i)&&(decide (c.kind=1)&&jm m c)))
def kV(m:Md)(l:List (Int×Int)):Bool:=(decide (2*l.length<=m.cons.length)&&decide (m.cons.length<=512))&&(allI (lY m.cons) l&&allI (jn m l.length) m.cons)
def eV(n:Int)(l:List bD)(i:Nat)(t:bD):Bool:=(decide (0<=t.cell)&&decide (t.cell <n))&&((decide (i=0)||decide ((l.getD (i - 1) ⟨0,0⟩).cell <t.cell))&&(!decide (t.add=0)&&cE t.add 1000000000))
def nN(k:Int):Bool:=decide (k=2)||decide (k=3)
def mN(u:cD)(t:Tb):Bool:=if nN t.kind then((decide (u.kind=0)||decide (u.kind=1))&&decide (u.value=0))else(decide (u.kind=2)&&(decide (t.lo<=u.value)&&decide (u.value<=t.hi)))
def gr(m:Md)(l:List cD)(i:Nat)(u:cD):Bool:=match eU m.ak m.tables false u.cell with
 |some (_,t)=>(decide (i=0)||decide ((l.getD (i - 1) ⟨0,0,0⟩).cell <u.cell))&&mN u t
 |none=>false
def kW(m:Md)(n:Int)(x:kU):Bool:=(allI (eV n x.delta) x.delta&&(x.hold.all (cy n)&&allI (gr m x.bZ) x.bZ))&&(decide (x.hold.length<=8)&&decide (x.bZ.length<=32))
def iu:List Int->List Int->Bool
 |x::a,y::b=>if x=y then iu a b else decide (x <y)
 |[],_::_=>true
 |_,[]=>false
def jS(m:Md)(s a:Int):Bool:=if s <0 then cE a 9999 else decide (0<=a)&&decide (a <m.ak.getD s.toNat 0)
def si:gq:=⟨⟨#[]⟩,false,[]⟩
def fk:eD:=⟨0,[],⟨[],[],[]⟩⟩
def dB(m:Md)(n:Int)(i:Nat)(a:eD):Bool:=
 (((decide (0<=a.op)&&decide (a.op <m.ops.length))&&decide (a.args.length=(m.ops.getD a.op.toNat si).ak.length))&&allI (fun k x=>jS m ((m.ops.getD a.op.toNat si).ak.getD k 0) x) a.args)&&
 ((decide (i=0)||(decide ((m.ay.getD (i - 1) fk).op <a.op)||(decide ((m.ay.getD (i - 1) fk).op=a.op)&&iu (m.ay.getD (i - 1) fk).args a.args)))&&kW m n a.eff)
def dU(m:Md)(o:gq):Bool:=(o.ak.all fun s=>decide (-1<=s)&&decide (s <m.ak.length))&&decide (o.ak.length<=3)
def jo(l:List ByteArray)(i:Nat)(s:ByteArray):Bool:=fR s&&!(l.take i).any fun u=>decide (u=s)
def gu(l:List ByteArray):Bool:=allI (jo l) l
def pg(m:Md)(n:Int):Bool:=(m.ops.all (dU m)&&(decide (m.ops.length<=8)&&(gu (m.ops.map (·.name))&&decide (m.ay.length<=256))))&&allI (dB m n) m.ay
def qs:Tb:=⟨⟨#[]⟩,0,[],0,0,0⟩
def qt(i:Int)(n:Nat):Bool:=decide (0<=i)&&decide (i <n)
def eG(m:Md)(h:Hde):Bool:=(qt h.table m.tables.length&&(qt h.to m.tables.length&&!decide (h.table=h.to)))&&
 ((decide ((m.tables.getD h.table.toNat qs).kind=0)&&decide ((m.tables.getD h.to.toNat qs).kind=0))&&(qt h.eE (m.tables.getD h.table.toNat qs).au.length&&(decide ((m.tables.getD h.to.toNat qs).au.length=1)&&decide ((m.tables.getD h.to.toNat qs).au.getD 0 0=(m.tables.getD h.table.toNat qs).au.getD h.eE.toNat 0))))
def b8(l:List Hde):Nat->Int->Int->Bool
 |0,a,b=>decide (a=b)
 |n+1,a,b=>decide (a=b)||l.any fun h=>decide (h.table=a)&&b8 l n h.to b
def fS(m:Md):Bool:=decide (m.aI.length<=12)&&(m.aI.all (eG m)&&m.aI.all fun h=>!b8 m.aI m.tables.length h.to h.table)
def cm(m:Md):Bool:=((bH m.ak m.tables&&decide (m.bw.length<=24))&&gu m.bw)&&(kV m (bx m.ak m.tables true)&&(pg m (bx m.ak m.tables true).length&&fS m))
section
variable {S C:List Int}
def uQ{k:Nat}{c:Int}(h:C[k]?=some c):cU S (C.take (k+1))=cU S (C.take k)*S.getD c.toNat 0:=qi _ _ h
def CN(hs:ce S=true){k:Nat}{n:Int}(h:S[k]?=some n):1<=n/\n<=6:=by
 have:=List.all_eq_true.1 hs n (List.mem_of_getElem? h);simpa using this
def uR(hs:ce S=true){c:Int}(hc:cg S c=true):1<=S.getD c.toNat 0/\S.getD c.toNat 0<=6:=by
 simp only[cg,Bool.and_eq_true,decide_eq_true_eq]at hc;obtain⟨n,u⟩:∃n,S[c.toNat]?=some n:=⟨_,List.getElem?_eq_getElem (by omega)⟩;rw[eR u];exact CN hs u
theorem CO(hs:ce S=true):∀(C:List Int) (a b:Int),C.all (cg S)=true->1<=a->a<=b->a<=C.foldl (fun n c=>n*S.getD c.toNat 0) a/\C.foldl (fun n c=>n*S.getD c.toNat 0) a<=b*6^C.length
 |[],a,b,_,_,h=>by simp;exact h
 |c::C,a,b,u,D,y=>by
  simp only[List.all_cons,Bool.and_eq_true]at u;obtain⟨h1,h2⟩:=uR hs u.1;have z:a*1<=a*S.getD c.toNat 0:=Int.mul_le_mul_of_nonneg_left h1 (by omega);have v:a*S.getD c.toNat 0<=b*6:=Int.mul_le_mul y h2 (by omega) (by omega);have:=CO hs C (a*S.getD c.toNat 0) (b*6) u.2 (by omega) v;rw[List.foldl_cons,List.length_cons,Int.pow_succ];rw[Int.mul_assoc,Int.mul_comm 6]at this;exact⟨by omega,this.2⟩
def lZ(hs:ce S=true)(hc:C.all (cg S)=true)(hl:C.length<=3):1<=cU S C/\cU S C<=216:=by
 have h:=CO hs C 1 1 hc (by omega) (by omega);refine⟨h.1,Int.le_trans h.2 ?_⟩;have:C.length=0\/C.length=1\/C.length=2\/C.length=3:=by omega
 rcases this with e|e|e|e <;>rw[e]<;>decide
def l4(S C:List Int):0<=bE S C/\bE S C<=216:=by
 unfold bE;split
 ·rename_i h;simp only[Bool.and_eq_true,decide_eq_true_eq]at h;have:=lZ h.1.2 h.2 (by omega);omega
 ·omega
theorem yx(s:Bool):∀(l:List Tb) (a:Int),0<=a->a<=l.foldl (fun n t=>if bp t.kind=s then n+bE S t.au else n) a/\l.foldl (fun n t=>if bp t.kind=s then n+bE S t.au else n) a<=a+216*l.length
 |[],a,h=>by simp
 |t::l,a,h=>by
  have u:=l4 S t.au;rw[List.foldl_cons,List.length_cons];split
  ·have:=yx s l (a+bE S t.au) (by omega);omega
  ·have:=yx s l a h;omega
def jT(s:Bool)(l:List Tb):0<=bn S s l/\bn S s l<=216*l.length:=by
 have:=yx (S:=S) s l 0 (by omega);unfold bn;omega
def qu(s:Bool){l:List Tb}{k:Nat}{t:Tb}(h:l[k]?=some t):bn S s (l.take (k+1))=if bp t.kind=s then bn S s (l.take k)+bE S t.au else bn S s (l.take k):=qi _ _ h
end
def sj{α β:Type}{f:α->List β}{l:List α}{q:Nat}{x:α}(h:l[q]?=some x):(l.take (q+1)).flatMap f=(l.take q).flatMap f++f x:=by
 rw[List.take_add_one,h];simp
def CP{α:Type}(n:Nat)(x:α):List.replicate (n+1) x=List.replicate n x++[x]:=List.replicate_succ'
def JE(S:List Int)(s:Bool)(t:Tb):(ee S s t).length=if bp t.kind=s then(bE S t.au).toNat else 0:=by
 unfold ee;split <;>simp
theorem CQ(S:List Int)(s:Bool):∀(l:List Tb) (a:Int),a+(l.flatMap (ee S s)).length=l.foldl (fun n t=>if bp t.kind=s then n+bE S t.au else n) a
 |[],a=>by simp
 |t::l,a=>by
  have y:=l4 S t.au;have u:=JE S s t;have v:=CQ S s l (if bp t.kind=s then a+bE S t.au else a);rw[List.flatMap_cons,List.foldl_cons,<- v,List.length_append,u];split <;>omega
def sk(S:List Int)(s:Bool)(l:List Tb):((l.flatMap (ee S s)).length:Int)=bn S s l:=by
 have:=CQ S s l 0;unfold bn;omega
def CR(S:List Int)(s:Bool)(l:List Tb):(l.flatMap (ee S s)).length<=216*l.length:=by
 have:=sk S s l;have:=jT (S:=S) s l;omega
def CS{S:List Int}{L:List Tb}(h:bH S L=true):bn S true L<=128/\bn S false L<=64:=by
 simp only[bH,Bool.and_eq_true,decide_eq_true_eq]at h;exact⟨h.2.2.1,h.2.2.2⟩
def iQ{S:List Int}{L:List Tb}(h:bH S L=true):S.length<=4/\L.length<=12:=by
 simp only[bH,Bool.and_eq_true,decide_eq_true_eq]at h;exact⟨h.1.1,h.1.2.2⟩
def ph{S:List Int}{L:List Tb}(h:bH S L=true):ce S=true:=by
 simp only[bH,Bool.and_eq_true,decide_eq_true_eq]at h;exact h.1.2.1
def qv{S:List Int}{L:List Tb}(h:bH S L=true){k:Nat}{t:Tb}(ht:L[k]?=some t):gS S L k t=true:=by
 simp only[bH,Bool.and_eq_true]at h;exact gQ.1 h.2.1 k t ht
def CT(S:List Int)(L:List Tb)(s:Bool):(bx S L s).length<=128:=by
 unfold bx;split
 ·rename_i h;have h1:=sk S s L;have h2:=CS h;cases s <;>omega
 ·simp
def JF{S C:List Int}(h:bE S C≠0):C.length<=3/\ce S=true/\C.all (cg S)=true:=by
 unfold bE at h;split at h
 ·rename_i u;simpa[Bool.and_eq_true,and_assoc]using u
 ·exact absurd rfl h
def jp{S:List Int}{L:List Tb}(h:bH S L=true){k:Nat}{t:Tb}(ht:L[k]?=some t):t.au.length<=3/\ce S=true/\t.au.all (cg S)=true:=by
 have h1:=qv h ht;simp only[gS,Bool.and_eq_true,Bool.not_eq_true',decide_eq_false_iff_not]at h1;exact JF h1.2.2.2.1
def CU{S:List Int}{L:List Tb}(h:bH S L=true){k:Nat}{t:Tb}(ht:L[k]?=some t):t.lo<=t.hi/\ -9999<=t.lo/\t.hi<=9999:=by
 have h1:=qv h ht;simp only[gS,qq,Bool.and_eq_true,Bool.not_eq_true',decide_eq_false_iff_not,decide_eq_true_eq]at h1;exact h1.2.2.2.2.1.1
def JG{S:List Int}{L:List Tb}{s:Bool}{r:Int×Int}(hr:r∈bx S L s):r.1<=r.2/\ -9999<=r.1/\r.2<=9999:=by
 unfold bx at hr;split at hr
 ·rename_i h;obtain⟨t,y,u⟩:=List.mem_flatMap.1 hr;obtain⟨k,v,rfl⟩:=List.getElem_of_mem y;unfold ee at u;split at u
  ·obtain⟨_,rfl⟩:=List.mem_replicate.1 u;exact CU h (List.getElem?_eq_getElem v)
  ·cases u
 ·cases hr
theorem uS{S:List Int}{s:Bool}{c:Int}:∀{l:List Tb} {q i:Nat} {t:Tb},fF (eF S s c) q l=some (i,t)->q<=i/\l[i - q]?=some t/\eF S s c t=true
 |[],_,_,_,h=>by cases h
 |u::l,q,i,t,h=>by
  unfold fF at h;split at h
  ·rename_i v;cases h;exact⟨Nat.le_refl _,by simp,v⟩
  ·obtain⟨h1,h2,h3⟩:=uS h;refine⟨by omega,?_,h3⟩;rw[show i - q=(i - (q+1))+1 by omega];simpa using h2
def JH{S:List Int}{L:List Tb}{s:Bool}{c:Int}{i:Nat}{t:Tb}(h:eU S L s c=some (i,t)):bH S L=true/\L[i]?=some t/\eF S s c t=true:=by
 unfold eU at h;split at h
 ·rename_i u;have:=uS h;exact⟨u,this.2.1,this.2.2⟩
 ·cases h
section
variable {α:Type}
structure Qp (lt:α->α->Bool):Prop where
 Qq:∀a b,lt a b=true->lt b a=false
 Qr:∀a b c,lt a b=false->lt b c=false->lt a c=false
variable (lt:α->α->Bool)
def yy:List α->List α->List α
 |[],b=>b
 |x::a,[]=>x::a
 |x::a,y::b=>if lt y x=true then y::yy (x::a) b else x::yy a (y::b)
termination_by a b=>a.length+b.length
def JI(x:α)(l:List α):List α:=yy lt l [x]
def CV(l:List α):List α:=l.foldl (fun o x=>JI lt x o) []
variable {lt}
end
def sg(a b:Int):Int:=if a <b then -1 else if b <a then 1 else 0
def CW(a b:Ev):Bool:=if a.t=b.t then(if a.r=b.r then decide (a.n <b.n)else decide (a.r <b.r))else decide (a.t <b.t)
section
variable {α:Type} (lt:α->α->Bool)
end
section
variable {α:Type}
end
def nm(e:Ev):Int×Int:=(e.r,e.n)
def jU:Nat->List Int->List (Int×Int)
 |_,[]=>[]
 |r,n::c=>(List.range n.toNat).map (fun i:Nat=>((r:Int),(i:Int)+1))++jU (r+1) c
def qw(a b:Ev):Bool:=dK a&&(dK b&&hasS b.past a.r a.n)
structure ClosedP (l:List Ev):Prop where
 fo:l.length<=1024
 form:∀e∈l,dK e=true
 alike:∀e∈l,∀x∈l,e.past.length=x.past.length
 names:(l.map nm).Nodup
 down:∀e∈l,∀r n,hasS e.past r n=true->∃x∈l,nm x=(r,n)/\Cy x.past e.past=true/\x.t <e.t
open Classical in
section
end
theorem yz{p:Int×Int}:∀(c:List Int) (r:Nat),p∈jU r c↔∃k,k <c.length/\p.1=(r+k:Nat)/\1<=p.2/\p.2<=c.getD k 0
 |[],r=>by simp[jU]
 |n::c,r=>by
  rw[jU,List.mem_append,yz c (r+1)];constructor
  ·rintro(h|⟨k,h1,h2,h3,h4⟩)
   ·simp only[List.mem_map,List.mem_range]at h;obtain⟨i,u,rfl⟩:=h;refine⟨0,by simp,by simp,by dsimp only;omega,?_⟩;show(i:Int)+1<=n
    omega
   ·refine⟨k+1,by simp;omega,by omega,h3,?_⟩;simpa using h4
  ·rintro⟨k,h1,h2,h3,h4⟩
   cases k with
   |zero=>
    left
    have h4:p.2<=n:=by simpa using h4
    simp only[List.mem_map,List.mem_range];refine⟨(p.2 - 1).toNat,by omega,?_⟩;obtain⟨v,y⟩:=p;simp only[Prod.mk.injEq];simp at h2 h3;constructor <;>omega
   |succ k=>
    right
    exact⟨k,by simp at h1;omega,by omega,h3,by simpa using h4⟩
def yA{c:List Int}(hv:iN c=true){r n:Int}:(r,n)∈jU 0 c↔hasS c r n=true:=by
 rw[yz];unfold hasS;simp only[hv,Bool.true_and,Bool.and_eq_true,decide_eq_true_eq];constructor
 ·rintro⟨k,h1,h2,h3,h4⟩;have h2:r=(k:Int):=by simpa using h2
  subst h2;exact⟨by omega,by omega,h3,by simpa using h4⟩
 ·rintro⟨h1,h2,h3,h4⟩;exact⟨r.toNat,by omega,by simp;omega,h3,h4⟩
theorem CX{α β:Type}{f:α->β}(hf:∀a b,f a=f b->a=b):∀{l:List α},l.Nodup->(l.map f).Nodup
 |[],_=>List.nodup_nil
 |x::l,h=>by
  have h:=List.nodup_cons.1 h;rw[List.map_cons,List.nodup_cons];refine⟨fun v=>?_,CX hf h.2⟩;obtain⟨y,u,e⟩:=List.mem_map.1 v;rw[hf _ _ e]at u;exact h.1 u
theorem CY:∀(c:List Int) (r:Nat),(jU r c).Nodup
 |[],r=>List.nodup_nil
 |n::c,r=>by
  rw[jU,List.nodup_append];refine⟨CX (fun a b h=>by simp only[Prod.mk.injEq]at h;omega) List.nodup_range,CY c (r+1),fun a u b v e=>?_⟩;subst e;obtain⟨i,_,rfl⟩:=List.mem_map.1 u;obtain⟨k,_,h2,_⟩:=(yz c (r+1)).1 v;dsimp only at h2;omega
theorem foldl_add:∀(c:List Int) (a:Int),c.foldl (·+·) a=a+c.foldl (·+·) 0
 |[],a=>by simp
 |x::c,a=>by
  rw[List.foldl_cons,List.foldl_cons,foldl_add c (a+x),foldl_add c (0+x)];omega
theorem CZ:∀(c:List Int) (r:Nat),(∀n∈c,0<=n)->((jU r c).length:Int)=yn c
 |[],r,_=>rfl
 |n::c,r,h=>by
  have u:=CZ c (r+1) (fun x v=>h x (by simp[v]));have y:=h n (by simp);rw[jU,List.length_append,List.length_map,List.length_range];unfold yn at u⊢;rw[List.foldl_cons,foldl_add c (0+n),<- u];omega
section
variable {α:Type} [DecidableEq α]
theorem uT:∀{L D:List α},L.Nodup->(∀x∈L,x∈D)->L.length<=D.length/\(L.length=D.length->∀x∈D,x∈L)
 |[],D,_,_=>⟨by simp,fun h x u=>by
  have:D=[]:=List.length_eq_zero_iff.1 (by simpa using h.symm);subst this;cases u⟩
 |y::L,D,J,hs=>by
  have I:=hs y (by simp);have v:=List.nodup_cons.1 J;have z:=List.length_erase_of_mem I;have G:0 <D.length:=List.length_pos_of_mem I;have V:=uT (L:=L) (D:=D.erase y) v.2 (fun x u=>(List.mem_erase_of_ne (fun e=>by subst e;exact v.1 u)).2 (hs x (by simp[u])));refine⟨by simp;omega,fun U x u=>?_⟩;by_cases e:x=y
  ·simp[e]
  ·have:=V.2 (by simp at U;omega) x ((List.mem_erase_of_ne e).2 u);simp[this]
def JJ{L D:List α}{p:α->Bool}(hp:∀x,p x=true↔x∈D)(z:L.Nodup)(y:D.Nodup):L.countP p=D.length↔∀x∈D,x∈L:=by
 rw[List.countP_eq_length_filter];have v:(L.filter p).Nodup:=z.filter _;have hs:∀x∈L.filter p,x∈D:=fun x u=>(hp x).1 (List.mem_filter.1 u).2;constructor
 ·intro h x u;exact(List.mem_filter.1 ((uT v hs).2 h x u)).1
 ·intro h;have h1:=(uT v hs).1;have h2:=(uT (L:=D) (D:=L.filter p) y (fun x u=>List.mem_filter.2 ⟨h x u,(hp x).2 u⟩)).1;omega
end
def JK{e:Ev}(h:dK e=true):iN e.past=true:=by
 simp only[dK,mK,Bool.and_eq_true]at h;exact h.1.1
def JL{c:List Int}(h:iN c=true):∀n∈c,0<=n:=fun n v=>by
 obtain⟨k,u,rfl⟩:=List.mem_iff_getElem.1 v;exact(Cz h (List.getElem?_eq_getElem u)).1
def uU(l:List Ev)(e:Ev):Nat:=l.countP fun x=>qw x e
def C0{l:List Ev}(hf:∀e∈l,dK e=true)(hn:(l.map nm).Nodup){e:Ev}(he:dK e=true):(uU l e:Int)=uL e.past↔∀r n,hasS e.past r n=true->∃x∈l,nm x=(r,n):=by
 have u:=JK he;have h1:uL e.past=((jU 0 e.past).length:Int):=by rw[uL,if_pos u,CZ _ _ (JL u)]
 have h2:uU l e=(l.map nm).countP (fun p=>decide (p∈jU 0 e.past)):=by
  unfold uU;rw[List.countP_map];refine List.countP_congr fun x v=>?_;simp only[qw,hf x v,he,Bool.true_and,Function.comp,decide_eq_true_eq];exact(yA u).symm
 rw[h1,h2];have:=JJ (p:=fun p=>decide (p∈jU 0 e.past)) (fun x=>decide_eq_true_iff) hn (CY e.past 0);constructor
 ·intro h r n z;have:=this.1 (by omega) (r,n) ((yA u).2 z);obtain⟨x,v,y⟩:=List.mem_map.1 this;exact⟨x,v,y⟩
 ·intro h
  have:=this.2 (fun p D=>by
   obtain⟨x,v,y⟩:=h p.1 p.2 ((yA u).1 D);exact List.mem_map.2 ⟨x,v,y⟩)
  omega
def JM{l:List Ev}(hn:(l.map nm).Nodup):∀{x y:Ev},x∈l->y∈l->nm x=nm y->x=y:=by
 induction l with
 |nil=>intro x y u;cases u
 |cons z l D=>
  intro x y u v e;rw[List.map_cons,List.nodup_cons]at hn;rcases List.mem_cons.1 u with h1|h1 <;>rcases List.mem_cons.1 v with h2|h2
  ·rw[h1,h2]
  ·subst h1;exact absurd (List.mem_map.2 ⟨y,h2,e.symm⟩) hn.1
  ·subst h2;exact absurd (List.mem_map.2 ⟨x,h1,e⟩) hn.1
  ·exact D hn.2 h1 h2 e
structure C1 (l:List Ev) (e:Ev):Prop where
 inside:∀x∈l,qw x e=true->Cy x.past e.past=true/\x.t <e.t
 count:(uU l e:Int)=uL e.past
def JN{l:List Ev}(Z:l.length<=1024)(u:∀e∈l,dK e=true)(D:∀e∈l,∀x∈l,e.past.length=x.past.length)(v:(l.map nm).Nodup):ClosedP l↔∀e∈l,C1 l e:=by
 constructor
 ·intro h e z;have hf:=u e z;refine⟨fun x G J=>?_,(C0 u v hf).2 fun r n U=>?_⟩
  ·simp only[qw,Bool.and_eq_true]at J;obtain⟨y,hy,V,h1,h2⟩:=h.down e z _ _ J.2.2;obtain rfl:=JM v hy G V;exact⟨h1,h2⟩
  ·obtain⟨x,G,I,_⟩:=h.down e z r n U;exact⟨x,G,I⟩
 ·intro h;refine⟨Z,u,D,v,fun e z r n U=>?_⟩;obtain⟨x,G,I⟩:=(C0 u v (u e z)).1 (h e z).count r n U
  have J:qw x e=true:=by
   simp only[nm,Prod.mk.injEq]at I;simp[qw,u x G,u e z,I.1,I.2,U]
  exact⟨x,G,I,(h e z).inside x G J⟩
section
variable {α:Type} {lt:α->α->Bool}
end
section
variable {l:List Ev} (h:ClosedP l)
include h
end
def kX(out:List Int)(c:bD):List Int:=out.set c.cell.toNat (IntKind.wrap .i64 (out.getD c.cell.toNat 0+c.add))
def JO(out:List Int)(c:bD):(kX out c).length=out.length:=List.length_set
def getD_set_ne{l:List Int}{i j:Nat}{x:Int}(h:i≠j):(l.set i x).getD j 0=l.getD j 0:=by
 rw[List.getD_eq_getElem?_getD,List.getD_eq_getElem?_getD,List.getElem?_set_ne h]
def uV(m:Md)(e:Ev):List bD:=if e.k=0 then(m.ay.getD e.a.toNat ⟨0,[],⟨[],[],[]⟩⟩).eff.delta else[]
def qx(m:Md)(out:List Int)(e:Ev):List Int:=(uV m e).foldl kX out
def nO(m:Md)(out:List Int)(l:List Ev):List Int:=l.foldl (qx m) out
def C2(cs:List bD)(out:List Int):(cs.foldl kX out).length=out.length:=by
 induction cs generalizing out with
 |nil=>rfl
 |cons c cs u=>rw[List.foldl_cons,u,JO]
def JP(m:Md)(l:List Ev)(out:List Int):(nO m out l).length=out.length:=by
 unfold nO
 induction l generalizing out with
 |nil=>rfl
 |cons e l u=>rw[List.foldl_cons,u];exact C2 _ _
def JQ{m:Md}{out:List Int}{l:List Ev}{q:Nat}{e:Ev}(h:l[q]?=some e):nO m out (l.take (q+1))=qx m (nO m out (l.take q)) e:=qi _ _ h
structure Wr where
 e:Ev
 u:cD
def kY(S:List Int)(t:Tb):List Tb:=if bp t.kind=true then[]else List.replicate (bE S t.au).toNat t
def kZ(S:List Int)(l:List Tb):List Tb:=l.flatMap (kY S)
section
variable {W:List Wr} {w:Wr} (h1:∀x∈W,hasS w.e.past x.e.r x.e.n=true) (h2:∀x∈W,hasS x.e.past w.e.r w.e.n=false) (h3:hasS w.e.past w.e.r w.e.n=false) (h4:∀x∈W,x.e.t <w.e.t)
include h2 h3 in
end
def jV(l:List Hde)(O:List Int)(t:Int):Bool:=!l.any fun h=>decide (h.table=t)&&decide (h.to∈O)
def yB{l:List Hde}{O:List Int}{t:Int}:jV l O t=true↔∀h∈l,h.table=t->h.to∉O:=by
 unfold jV;rw[Bool.not_eq_true',<- Bool.not_eq_true,List.any_eq_true];constructor
 ·intro h x v z y;exact h ⟨x,v,by simp[z,y]⟩
 ·rintro h ⟨x,v,u⟩;simp only[Bool.and_eq_true,decide_eq_true_eq]at u;exact h x v u.1 u.2
def uW{l:List Hde}{a b:Int}:b8 l 0 a b=true↔a=b:=by simp[b8]
def mO{l:List Hde}{n:Nat}{a b:Int}:b8 l (n+1) a b=true↔a=b\/∃h∈l,h.table=a/\b8 l n h.to b=true:=by
 show(decide (a=b)||l.any fun h=>decide (h.table=a)&&b8 l n h.to b)=true↔_
 rw[Bool.or_eq_true,decide_eq_true_eq,List.any_eq_true];simp only[Bool.and_eq_true,decide_eq_true_eq]
def nP{l:List Hde}(n:Nat)(a:Int):b8 l n a a=true:=by
 cases n with
 |zero=>exact uW.2 rfl
 |succ n=>exact mO.2 (.inl rfl)
theorem C3{l:List Hde}{h:Hde}(hh:h∈l):∀{n:Nat} {a:Int},b8 l n a h.table=true->b8 l (n+1) a h.to=true
 |0,a,u=>by
  have:=uW.1 u;exact mO.2 (.inr ⟨h,hh,this.symm,nP _ _⟩)
 |n+1,a,u=>by
  rcases mO.1 u with rfl|⟨x,hx,ht,hl'⟩
  ·exact mO.2 (.inr ⟨h,hh,rfl,nP _ _⟩)
  ·exact mO.2 (.inr ⟨x,hx,ht,C3 hh hl'⟩)
def qy(l:List Hde)(h:Hde)(x:Int):Prop:=(∃i,b8 l i h.to x=true)/\∃j,b8 l j x h.table=true
def C4{l:List Hde}{h:Hde}{n:Nat}(hh:h∈l)(hc:b8 l n h.to h.table=true){x:Int}(hx:qy l h x):∃g∈l,g.table=x/\qy l h g.to:=by
 obtain⟨⟨i,v⟩,j,u⟩:=hx
 cases j with
 |zero=>
  have:=uW.1 u;exact⟨h,hh,this.symm,⟨0,nP _ _⟩,n,hc⟩
 |succ j=>
  rcases mO.1 u with rfl|⟨g,hg,hgt,hgl⟩
  ·exact⟨h,hh,rfl,⟨0,nP _ _⟩,n,hc⟩
  ·exact⟨g,hg,hgt,⟨i+1,C3 hg (by rw[hgt];exact v)⟩,j,hgl⟩
def JR{l:List Hde}{h:Hde}{n:Nat}(hh:h∈l)(hc:b8 l n h.to h.table=true){O:List Int}(y:∀x,qy l h x->x∈O){t:Int}(ht:qy l h t):jV l O t=false:=by
 rw[<- Bool.not_eq_true,yB];intro hs;obtain⟨g,z,v,u⟩:=C4 hh hc ht;exact hs g z v (y _ u)
def JS{l:List Hde}{h:Hde}{n:Nat}(hc:b8 l n h.to h.table=true):qy l h h.table:=⟨⟨n,hc⟩,0,nP _ _⟩
theorem yC:∀(n:Nat) (l:List Int),l.Nodup->(∀x∈l,0<=x/\x <(n:Int))->l.length<=n
 |0,[],_,_=>Nat.le_refl _
 |0,x::l,_,h=>by have:=h x (by simp);omega
 |n+1,l,hd,h=>by
  have h1:(l.erase (n:Int)).length<=n:=yC n _ (hd.erase _) fun x u=>by
   have h2:=(hd.mem_erase_iff).1 u;have h3:=h x h2.2;omega
  have h4:=List.length_erase (a:=(n:Int)) (l:=l);split at h4 <;>omega
theorem C5:∀{w:List Int},(∀(i j:Nat) (x:Int),i <j->w[i]?=some x->w[j]?=some x->False)->w.Nodup
 |[],_=>List.nodup_nil
 |x::w,h=>List.nodup_cons.2 ⟨fun D=>by
   obtain⟨j,u⟩:=List.mem_iff_getElem?.1 D;exact h 0 (j+1) x (by omega) rfl (by simpa using u),C5 fun i j y z v u=>h (i+1) (j+1) y (by omega) (by simpa using v) (by simpa using u)⟩
theorem C6{l:List Hde}{O:List Int}(v:∀t∈O,jV l O t=false):∀(k:Nat) (t:Int),t∈O->∃w:List Int,w.length=k+1/\w.head?=some t/\(∀x∈w,x∈O)/\∀i x y,w[i]?=some x->w[i+1]?=some y->∃g∈l,g.table=x/\g.to=y
 |0,t,z=>⟨[t],rfl,rfl,by simpa using z,fun i x y h1 h2=>by simp at h2⟩
 |k+1,t,z=>by
  have hs:=v t z;rw[<- Bool.not_eq_true,yB]at hs
  have:∃h∈l,h.table=t/\h.to∈O:=by
   apply Classical.byContradiction;intro hn;exact hs fun h Z I J=>hn ⟨h,Z,I,J⟩
  obtain⟨g,V,G,D⟩:=this;obtain⟨w,h1,h2,h3,h4⟩:=C6 v k g.to D;refine⟨t::w,by simp[h1],rfl,fun x u=>?_,fun i x y u U=>?_⟩
  ·rcases List.mem_cons.1 u with rfl|u
   ·exact z
   ·exact h3 x u
  ·cases i with
   |zero=>
    simp at u U;subst u;refine⟨g,V,G,?_⟩;have:w.head?=some y:=by rw[<- U];cases w <;>rfl
    rw[h2]at this;exact Option.some.inj this
   |succ i=>exact h4 i x y (by simpa using u) (by simpa using U)
theorem C7{l:List Hde}{w:List Int}(h4:∀i x y,w[i]?=some x->w[i+1]?=some y->∃g∈l,g.table=x/\g.to=y):∀(d i:Nat) (x y:Int),w[i]?=some x->w[i+d]?=some y->b8 l d x y=true
 |0,i,x,y,I,u=>by
  rw[Nat.add_zero,I]at u;cases u;exact nP _ _
 |d+1,i,x,y,I,u=>by
  have G:i+1 <w.length:=by have:=aF u;omega
  obtain⟨z,J⟩:=am G;obtain⟨g,U,D,v⟩:=h4 i x z I J;exact mO.2 (.inr ⟨g,U,D,C7 h4 d (i+1) g.to y (by rw[v];exact J) (by rw[show i+1+d=i+(d+1) by omega];exact u)⟩)
theorem C8{l:List Hde}:∀{n m:Nat} {a b:Int},n<=m->b8 l n a b=true->b8 l m a b=true
 |0,m,a,b,_,h=>by rw[uW.1 h];exact nP _ _
 |n+1,0,a,b,h,_=>by omega
 |n+1,m+1,a,b,u,h=>by
  rcases mO.1 h with rfl|⟨g,hg,hgt,hgl⟩
  ·exact nP _ _
  ·exact mO.2 (.inr ⟨g,hg,hgt,C8 (by omega) hgl⟩)
def JT{l:List Hde}{n:Nat}(I:∀h∈l,b8 l n h.to h.table=false){O:List Int}(hO:∀t∈O,0<=t/\t <n)(ab:O≠[]):∃t∈O,jV l O t=true:=by
 apply Classical.byContradiction;intro hn
 have ad:∀t∈O,jV l O t=false:=fun t ht=>by
  rw[<- Bool.not_eq_true];exact fun h=>hn ⟨t,ht,h⟩
 obtain⟨t,D,rfl⟩:∃t D,O=t::D:=by
  cases O with
  |nil=>exact absurd rfl ab
  |cons t D=>exact⟨t,D,rfl⟩
 obtain⟨w,h1,_,h3,h4⟩:=C6 ad n t (by simp)
 have Z:¬w.Nodup:=fun hd=>by
  have:=yC n w hd fun x hx=>hO x (h3 x hx);omega
 have:∃(i j:Nat) (x:Int),i <j/\w[i]?=some x/\w[j]?=some x:=by
  apply Classical.byContradiction;intro z;exact Z (C5 fun i j x v V G=>z ⟨i,j,x,v,V,G⟩)
 obtain⟨i,j,x,v,V,G⟩:=this;have ag:=aF G;obtain⟨y,hy⟩:=am (xs:=w) (k:=i+1) (by omega);obtain⟨g,hg,U,J⟩:=h4 i x y V hy;have hl:=C7 h4 (j - (i+1)) (i+1) y x hy (by rw[show i+1+(j - (i+1))=j by omega];exact G);have u:=C8 (m:=n) (by omega) hl;rw[<- U,<- J]at u;rw[I g hg]at u;cases u
def yD(l:List Hde)(n:Nat)(O:List Int):Prop:=∀h∈l,b8 l n h.to h.table=true->∀x,qy l h x->x∈O
structure k6 (l:List Hde) (n:Nat) (O seen cur:List Int):Prop where
 sub:cur.Sublist O
 gone:∀t∈seen,jV l O t=true->t∉cur
 mP:yD l n O->yD l n cur
def k6.start{l:List Hde}{n:Nat}{O:List Int}:k6 l n O [] O:=⟨List.Sublist.refl _,fun _ h=>absurd h (by simp),id⟩
def JU{l:List Hde}{O u:List Int}{t:Int}(h:∀x∈u,x∈O)(hs:jV l O t=true):jV l u t=true:=by
 rw[yB]at hs⊢;exact fun g z v y=>hs g z v (h _ y)
def k6.gJ{l:List Hde}{n:Nat}{O u v:List Int}{t:Int}(h:k6 l n O u v)(hs:jV l v t=false):k6 l n O (t::u) v where
 sub:=h.sub
 gone:=fun x z D=>by
  rcases List.mem_cons.1 z with rfl|z
  ·exact absurd (JU (fun y G=>h.sub.subset G) D) (by rw[hs];decide)
  ·exact h.gone x z D
 mP:=h.mP
def k6.drop{l:List Hde}{n:Nat}{O v y:List Int}{t:Int}(h:k6 l n O v y)(hs:jV l y t=true):k6 l n O (t::v) (y.filter fun x=>!decide (x=t)) where
 sub:=(List.filter_sublist).trans h.sub
 gone:=fun x z D V=>by
  obtain⟨J,U⟩:=List.mem_filter.1 V;rcases List.mem_cons.1 z with rfl|z
  ·simp at U
  ·exact h.gone x z D J
 mP:=fun D g I G x z=>by
  have u:=h.mP D;refine List.mem_filter.2 ⟨u g I G x z,?_⟩
  have:x≠t:=by
   rintro rfl;rw[JR I G (u g I G) z]at hs;cases hs
  simpa using this
structure mQ (l:List Hde) (n k:Nat) (O:List Int):Prop where
 yE:O.Nodup
 yF:∀t∈O,0<=t/\t <n
 fo:(∀h∈l,b8 l n h.to h.table=false)->O.length<=l.length - k
 mP:yD l n O
def mQ.pass{l:List Hde}{n k:Nat}{O v u:List Int}(h:mQ l n k O)(y:k6 l n O v u)(D:∀t∈u,t∈v):mQ l n (k+1) u where
 yE:=y.sub.nodup h.yE
 yF:=fun t I=>h.yF t (y.sub.subset I)
 fo:=fun z=>by
  have V:=h.fo z;have ab:=y.sub.length_le;rcases Nat.lt_or_ge u.length O.length with Z|U
  ·omega
  ·have J:u=O:=y.sub.eq_of_length (by omega);by_cases G:O=[]
   ·rw[J,G];simp
   ·obtain⟨t,I,hs⟩:=JT z h.yF G;exact absurd I (by rw[<- J];exact y.gone t (D t (by rw[J];exact I)) hs)
 mP:=y.mP h.mP
def mQ.done{l:List Hde}{n:Nat}{O:List Int}(h:mQ l n l.length O):decide (O.length=0)=l.all fun g=>!b8 l n g.to g.table:=by
 cases z:l.all fun g=>!b8 l n g.to g.table with
 |true=>
  have y:∀g∈l,b8 l n g.to g.table=false:=fun g u=>by simpa using List.all_eq_true.1 z g u
  have:=h.fo y;exact decide_eq_true (by omega)
 |false=>
  rw[<- Bool.not_eq_true,List.all_eq_true]at z
  have:∃g∈l,b8 l n g.to g.table=true:=by
   apply Classical.byContradiction;intro I;apply z;intro g u
   cases v:b8 l n g.to g.table with
   |false=>rfl
   |true=>exact absurd ⟨g,u,v⟩ I
  obtain⟨g,u,v⟩:=this;have D:=h.mP g u v _ (JS v);have:O.length≠0:=by intro G;rw[List.length_eq_zero_iff.1 G]at D;cases D
  simpa using this
end Go.Proofs.YtjolgbkkocjpgaaGreatDoor
