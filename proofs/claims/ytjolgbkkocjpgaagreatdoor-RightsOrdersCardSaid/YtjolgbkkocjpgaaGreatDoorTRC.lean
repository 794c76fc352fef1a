/- The tree evaluator,35: rules for lists of lists of the call's own. No condition. -/
import Derived.Test.YtjolgbkkocjpgaaGreatDoorTD
import Derived.Test.YtjolgbkkocjpgaaGreatDoorTX
import Derived.Test.YtjolgbkkocjpgaaGreatDoorTS
import Derived.Test.YtjolgbkkocjpgaaGreatDoorTLQ
import Derived.Test.YtjolgbkkocjpgaaGreatDoorTNI
set_option linter.defProp false
set_option linter.unusedSimpArgs false
set_option linter.unusedVariables false
set_option linter.unusedSectionVars false
namespace Go.Proofs.YtjolgbkkocjpgaaGreatDoor
open Go.RowKit
section
variable {g:Cfg} {d:Option (List Nat)} {i:Nat} {env:Env} {fr:Fr}
def ae.sY{t e r k:Nat}{p:List Nat}{x y:Operand}{u:IntKind}{fs:List (List AV)}(ht:eL g.P t=some (e,1))(hx:rd env x=.lo r p)(hy:rd env y=.t (.int u (k:Int)))(hf:j6 fr r p=some fs)(hk:k <fs.length):ae g d i env fr (.indexAddr t x y) (.lr r p k) fr []:=.p rfl rfl (by
 have h1:(Nat.beq 1 1&&iZ (k:Int) fs.length)=true:=by
  unfold iZ;simp;exact hk
 unfold bG i_;simp only[ht,hx,hy,hf,h1];rfl)
def ae.sZ{t n r k:Nat}{p q:List Nat}{y:Operand}{fs u:List (List AV)}(ht:bh g.P t=some (false,n))(hy:rd env y=.lr r p k)(hf:j6 fr r p=some fs)(hk:fs[k]?=some [.arr u])(hq:p++[k]=q):ae g d i env fr (.load t y) (.lo r q) fr []:=.p rfl rfl (by
 subst hq;unfold bG fv;simp only[ht,hy,hf,hk])
def ae.s8{t n r k:Nat}{p:List Nat}{y:Operand}{fs:List (List AV)}{u:IntKind}{m:Int}(ht:bh g.P t=some (false,n))(hy:rd env y=.lr r p k)(hf:j6 fr r p=some fs)(hk:fs[k]?=some [.int u m]):ae g d i env fr (.load t y) (.t (.int u m)) fr []:=.p rfl rfl (by
 unfold bG fv;simp only[ht,hy,hf,hk])
def ae.s9{t r k:Nat}{p:List Nat}{a y:Operand}{x v:AV}{fs:List (List AV)}{u:IntKind}{m z:Int}{fr':Fr}(hs:∀C:CallF,step g C d i env fr (.store t a y)=cr g C env fr (.store t a y))(ht:bh g.P t=some (false,1))(ha:rd env a=.lr r p k)(hy:rd env y=.t (.int u m))(hb:fr[r]?=some (.own false x))(hx:fb x p=some (.arr fs))(hk:fs[k]?=some [.int u z])(hv:setAt x p k (.int u m)=v)(hf:aJ (fr.set r (.own false v)) fr'):ae g d i env fr (.store t a y) .dead fr' []:=.r fun C=>by
 obtain rfl:=hf.eq;subst hv;rw[hs];have h1:((bB (.t (.int u m))).all dk&&Nat.beq (bB (.t (.int u m))).length 1)=true:=rfl;show gH g.P fr t (rd env a) (rd env y)=_
 unfold gH wO;simp only[ht,ha,hy,hb,hx,hk,h1,if_true]
def ae.qX{xt yt:TypeId}{x y:Operand}{m n:Int}(hx:rd env x=.t (.int .i64 m))(hy:rd env y=.t (.int .i64 n)):ae g d i env fr (.binOp .add xt x y yt) (.t (.int .i64 (IntKind.wrap .i64 (m+n)))) fr []:=
 .kP hx hy (by unfold gF;simp only[if_true,jH])
end
def mf{fr:Fr}{i:Nat}{ro:Bool}{fs:List (List AV)}(h:fr[i]?=some (.own ro (.arr fs))):j6 fr i []=some fs:=by
 unfold j6;simp only[h,fb]
def fV{fr:Fr}{i k:Nat}{ro:Bool}{fs u:List (List AV)}(h:fr[i]?=some (.own ro (.arr fs)))(hk:fs[k]?=some [.arr u]):j6 fr i [k]=some u:=by
 unfold j6;simp only[h,fb,hk]
set_option maxRecDepth 100000
set_option maxHeartbeats 16000000
structure dF where
 i:Nat
 r:Nat
 a:Int
def mg(l:List (List Int))(s:dF):Int:=(l.getD s.i []).getD s.r 0
def cH(l:List (List Int))(s:dF):List (List Int):=l.set s.i ((l.getD s.i []).set s.r (IntKind.i64.wrap (mg l s+s.a)))
def zJ(c n:Int):Int:=if c=0 then(if n <0 then 9 else if 1000000000000 <n then 8 else 0)else c
def gZ(z:List (List Int)×Int)(s:dF):List (List Int)×Int:=(cH z.1 s,zJ z.2 (mg (cH z.1 s) s))
def dt(N R:Nat)(l:List (List Int)):Prop:=l.length=N/\∀x∈l,x.length=R
def dX(N R:Nat)(s:dF):Prop:=s.i <N/\s.r <R
def qY{N R:Nat}{l:List (List Int)}{s:dF}(h:dt N R l)(hs:dX N R s):∃x n,l[s.i]?=some x/\x[s.r]?=some n/\x.length=R/\mg l s=n/\cH l s=l.set s.i (x.set s.r (IntKind.i64.wrap (n+s.a))):=by
 obtain⟨x,u⟩:=am (xs:=l) (k:=s.i) (by rw[h.1];exact hs.1);have z:=h.2 x (List.mem_of_getElem? u);obtain⟨n,D⟩:=am (xs:=x) (k:=s.r) (by rw[z];exact hs.2);have v:l.getD s.i []=x:=by rw[List.getD_eq_getElem?_getD,u];rfl
 have y:mg l s=n:=by unfold mg;rw[v,List.getD_eq_getElem?_getD,D];rfl
 exact⟨x,n,u,D,z,y,by unfold cH;rw[y,v]⟩
def s_{N R:Nat}{l:List (List Int)}{s:dF}(h:dt N R l)(hs:dX N R s):dt N R (cH l s):=by
 obtain⟨x,n,h1,h2,h3,_,v⟩:=qY h hs;rw[v];refine⟨by rw[List.length_set];exact h.1,fun y u=>?_⟩;rcases List.mem_or_eq_of_mem_set u with u|rfl
 ·exact h.2 y u
 ·rw[List.length_set];exact h3
def Fy{l:List (List Int)}{x:List Int}{i r:Nat}{v:Int}(hx:l[i]?=some x):setAt (eZ l) [i] r (.int .i64 v)=eZ (l.set i (x.set r v)):=by
 have h1:(aO l)[i]?=some [.arr (aG x)]:=jv hx;unfold eZ;rw[setAt];simp only[h1,setAt];have h2:(aG x).set r [.int .i64 v]=aG (x.set r v):=by unfold aG;rw[List.map_set]
 rw[h2];unfold aO;rw[List.map_set];rfl
def vZ{N R:Nat}{l:List (List Int)}{s:dF}(h:dt N R l)(hs:dX N R s):Cl ai 49 [.t (.int .i64 (s.i:Int)),.t (.int .i64 (s.r:Int)),.t (.int .i64 s.a),.lp 0 0] [.box false 38 [.lo 1 []],.own false (.arr (aO l))] (.aL []) [.box false 38 [.lo 1 []],.own false (.arr (aO (cH l s)))]:=by
 obtain⟨x,n,hx,G,J,_,y⟩:=qY h hs;have u:(aO l)[s.i]?=some [.arr (aG x)]:=jv hx;have v:(aG x)[s.r]?=some [.int .i64 n]:=aU G;have D:s.i <(aO l).length:=aF u;have I:s.r <(aG x).length:=aF v;have hv:setAt (.arr (aO l)) [s.i] s.r (.int .i64 (IntKind.i64.wrap (n+s.a)))=.arr (aO (cH l s)):=by rw[y];exact Fy hx
 have z:fb (.arr (aO l)) [s.i]=some (.arr (aG x)):=by simp only[fb,u]
 refine Cl.ao rfl Tryz.func49 rfl rfl rfl ?_
 repeat'(first
|((with_reducible apply ac.text);(try case hm=>exact rfl))
|(with_reducible apply aa.nil)
|((with_reducible apply aa.u0);(case hx=>first
|((with_reducible apply ae.sY);(case ht|hx|hy=>exact rfl);(case hf=>first|exact mf rfl|exact fV rfl u);(case hk=>assumption))
|((with_reducible apply ae.sZ);(case ht|hy=>exact rfl);(case hf=>exact mf rfl);(case hk=>exact u);(case hq=>exact rfl))
|((with_reducible apply ae.s8);(case ht|hy=>exact rfl);(case hf=>exact fV rfl u);(case hk=>exact v))
|((with_reducible apply ae.s9);(case hs=>exact fun _=>rfl);(case ht|ha|hy|hb=>exact rfl);(case hx=>exact z);(case hk=>exact v);(case hv=>exact hv);(case hf=>exact leq))
|(exact ae.qX (m:=n) (n:=s.a) rfl rfl)
|exact ah))
|fail)
 exact⟨.inl rfl,rfl⟩
def v6{N R:Nat}{l:List (List Int)}{s:dF}{c:Int}(h:dt N R l)(hs:dX N R s):Cl ai 41 [.t (.int .i64 (s.i:Int)),.t (.int .i64 (s.r:Int)),.t (.int .i64 s.a),.lp 0 0,.lp 1 0] [.box false 38 [.lo 2 []],.box false 39 [.t (.int .i64 c)],.own false (.arr (aO l))] (.aL []) [.box false 38 [.lo 2 []],.box false 39 [.t (.int .i64 (zJ c (mg (cH l s) s)))],.own false (.arr (aO (cH l s)))]:=by
 obtain⟨x,n,hx,hn,hl,_,G⟩:=qY h hs;obtain⟨x2,Z,V,J,_,I,_⟩:=qY (s_ h hs) hs;have u:(aO l)[s.i]?=some [.arr (aG x)]:=jv hx;have y:(aG x)[s.r]?=some [.int .i64 n]:=aU hn;have ab:s.i <(aO l).length:=aF u;have ad:s.r <(aG x).length:=aF y;have hv:setAt (.arr (aO l)) [s.i] s.r (.int .i64 (IntKind.i64.wrap (n+s.a)))=.arr (aO (cH l s)):=by rw[G];exact Fy hx
 have D:fb (.arr (aO l)) [s.i]=some (.arr (aG x)):=by simp only[fb,u]
 have v:(aO (cH l s))[s.i]?=some [.arr (aG x2)]:=jv V;have z:(aG x2)[s.r]?=some [.int .i64 Z]:=aU J;have U:s.i <(aO (cH l s)).length:=aF v;have ag:s.r <(aG x2).length:=aF z;rw[I];clear I;unfold zJ;generalize hL:aO (cH l s)=L at v U hv⊢;refine Cl.ao rfl Tryz.func41 rfl rfl rfl ?_;by_cases hc:c=0
 ·
  subst hc;rw[if_pos rfl];by_cases h1:Z <0
  ·
   rw[if_pos h1]
   repeat'(first
|(with_reducible first|apply ac.seq|apply ac.block)
|((with_reducible apply ac.text);(try case hm=>exact rfl))
|((with_reducible apply ac.aA);(case hc=>exact rfl))
|((with_reducible apply ac.aH);(case hc=>exact rfl))
|((with_reducible apply aa.aE);(case hp=>exact aj))
|((with_reducible apply aa.dS);(case hp=>exact aj))
|(with_reducible first|apply aa.ap|apply aa.bj)
|((with_reducible apply aa.u0);(case hx=>first
|((with_reducible apply ae.sY);(case ht|hx|hy=>exact rfl);(case hf=>first|exact mf rfl|exact fV rfl u|exact fV rfl v);(case hk=>assumption))
|((with_reducible apply ae.sZ);(case ht|hy=>exact rfl);(case hf=>exact mf rfl);(case hk=>first|exact u|exact v);(case hq=>exact rfl))
|((with_reducible apply ae.s8);(case ht|hy=>exact rfl);(case hf=>first|exact fV rfl u|exact fV rfl v);(case hk=>first|exact y|exact z))
|((with_reducible apply ae.s9);(case hs=>exact fun _=>rfl);(case ht|ha|hy|hb=>exact rfl);(case hx=>exact D);(case hk=>exact y);(case hv=>exact hv);(case hf=>exact leq))
|(exact ae.qX (m:=n) (n:=s.a) rfl rfl)
|exact ah))
|fail)
   exact⟨.inl rfl,rfl⟩
  ·
   rw[if_neg h1];by_cases h2:1000000000000 <Z
   ·
    rw[if_pos h2]
    repeat'(first
|(with_reducible first|apply ac.seq|apply ac.block)
|((with_reducible apply ac.text);(try case hm=>exact rfl))
|((with_reducible apply ac.aA);(case hc=>exact rfl))
|((with_reducible apply ac.aH);(case hc=>exact rfl))
|((with_reducible apply aa.aE);(case hp=>exact aj))
|((with_reducible apply aa.bC);(case hp=>exact aj))
|((with_reducible apply aa.dS);(case hp=>exact aj))
|(with_reducible first|apply aa.ap|apply aa.bj)
|((with_reducible apply aa.u0);(case hx=>first
|((with_reducible apply ae.sY);(case ht|hx|hy=>exact rfl);(case hf=>first|exact mf rfl|exact fV rfl u|exact fV rfl v);(case hk=>assumption))
|((with_reducible apply ae.sZ);(case ht|hy=>exact rfl);(case hf=>exact mf rfl);(case hk=>first|exact u|exact v);(case hq=>exact rfl))
|((with_reducible apply ae.s8);(case ht|hy=>exact rfl);(case hf=>first|exact fV rfl u|exact fV rfl v);(case hk=>first|exact y|exact z))
|((with_reducible apply ae.s9);(case hs=>exact fun _=>rfl);(case ht|ha|hy|hb=>exact rfl);(case hx=>exact D);(case hk=>exact y);(case hv=>exact hv);(case hf=>exact leq))
|(exact ae.qX (m:=n) (n:=s.a) rfl rfl)
|exact ah))
|fail)
    exact⟨.inl rfl,rfl⟩
   ·
    rw[if_neg h2]
    repeat'(first
|(with_reducible first|apply ac.seq|apply ac.block)
|((with_reducible apply ac.text);(try case hm=>exact rfl))
|(with_reducible first|apply ac.skip|apply bk)
|((with_reducible apply ac.aH);(case hc=>exact rfl))
|((with_reducible apply aa.bC);(case hp=>exact aj))
|((with_reducible apply aa.dS);(case hp=>exact aj))
|(with_reducible apply aa.ap)
|((with_reducible apply aa.u0);(case hx=>first
|((with_reducible apply ae.sY);(case ht|hx|hy=>exact rfl);(case hf=>first|exact mf rfl|exact fV rfl u|exact fV rfl v);(case hk=>assumption))
|((with_reducible apply ae.sZ);(case ht|hy=>exact rfl);(case hf=>exact mf rfl);(case hk=>first|exact u|exact v);(case hq=>exact rfl))
|((with_reducible apply ae.s8);(case ht|hy=>exact rfl);(case hf=>first|exact fV rfl u|exact fV rfl v);(case hk=>first|exact y|exact z))
|((with_reducible apply ae.s9);(case hs=>exact fun _=>rfl);(case ht|ha|hy|hb=>exact rfl);(case hx=>exact D);(case hk=>exact y);(case hv=>exact hv);(case hf=>exact leq))
|(exact ae.qX (m:=n) (n:=s.a) rfl rfl)
|exact ah))
|fail)
    exact⟨.inl rfl,rfl⟩
 ·
  rw[if_neg hc]
  repeat'(first
|(with_reducible first|apply ac.seq|apply ac.block)
|((with_reducible apply ac.text);(try case hm=>exact rfl))
|(with_reducible first|apply ac.skip|apply bk)
|((with_reducible apply ac.aA);(case hc=>exact rfl))
|((with_reducible apply aa.gN);(case hp=>exact aj))
|(with_reducible apply aa.ap)
|((with_reducible apply aa.u0);(case hx=>first
|((with_reducible apply ae.sY);(case ht|hx|hy=>exact rfl);(case hf=>first|exact mf rfl|exact fV rfl u|exact fV rfl v);(case hk=>assumption))
|((with_reducible apply ae.sZ);(case ht|hy=>exact rfl);(case hf=>exact mf rfl);(case hk=>first|exact u|exact v);(case hq=>exact rfl))
|((with_reducible apply ae.s8);(case ht|hy=>exact rfl);(case hf=>first|exact fV rfl u|exact fV rfl v);(case hk=>first|exact y|exact z))
|((with_reducible apply ae.s9);(case hs=>exact fun _=>rfl);(case ht|ha|hy|hb=>exact rfl);(case hx=>exact D);(case hk=>exact y);(case hv=>exact hv);(case hf=>exact leq))
|(exact ae.qX (m:=n) (n:=s.a) rfl rfl)
|exact ah))
|fail)
  exact⟨.inl rfl,rfl⟩
set_option maxHeartbeats 32000000
def lA(n:Int):Bool:=decide (0<=n)&&decide (n<=1000000000000)
def iD(p:Pln)(R:Int)(l:List (List Int)):Bool:=(decide (1<=R)&&decide (R<=5))&&(decide (l.length=p.aw.length)&&l.all fun x=>decide ((x.length:Int)=R)&&x.all lA)
def jE:List (List Int)->Int
 |[]=>5
 |x::_=>x.length
def nh(e:Ev):Bool:=decide (e.k=1)&&decide (e.gk=0)
def j3(m:Md)(p:Pln)(n:Int)(e:Ev):Bool:=iV m n e&&(!nh e ||decide (e.gi <p.aw.length))
def cI(r:Nat)(sg:Int)(A:List cP):List dF:=(A.filter fun x=>decide (x.k=0)).map fun x=>⟨x.i.toNat,r,sg*x.n⟩
def qZ{r:Nat}{sg:Int}{A:List cP}{q:Nat}{x:cP}(h:A[q]?=some x):cI r sg (A.take (q+1))=cI r sg (A.take q)++if x.k=0 then[⟨x.i.toNat,r,sg*x.n⟩]else[]:=by
 unfold cI;rw[List.take_add_one,List.filter_append,List.map_append,h];by_cases u:x.k=0
 ·simp[u]
 ·simp[u]
def fu(m:Md)(p:Pln)(e:Ev):List dF:=if e.k=0 then cI e.r.toNat (-1) (cJ m p e.a e.past.length)++cI e.r.toNat 1 (bK m e.a (-1) 0 p.aw)else if nh e=true then[⟨e.gi.toNat,e.r.toNat,0 - e.ga⟩,⟨e.gi.toNat,e.to.toNat,e.ga⟩]else[]
structure v8 (m:Md) (p:Pln) (e:Ev):Prop where
 pw:PW m p
 past:1<=e.past.length/\e.past.length<=5
 r:0<=e.r/\e.r <e.past.length
 act:e.k=0->sX m p e.a e.past.length=true
 tr:nh e=true->(0<=e.gi/\e.gi <p.aw.length)/\(0<=e.to/\e.to <e.past.length)/\1<=e.ga/\e.ga<=1000000
 fo:p.aw.length<=1000
theorem zK{m:Md}{k R:Int}:∀{l:List Lck} {i:Nat} {x:cP},x∈eh m k R i l->x.k≠0
 |[],i,x,h=>by unfold eh at h;cases h
 |L::l,i,x,h=>by
  unfold eh at h;split at h
  ·rcases List.mem_cons.1 h with rfl|h
   ·exact fun h=>absurd h (by show¬(1:Int)=0;decide)
   ·exact zK h
  ·exact zK h
theorem Fz(m:Md)(k R:Int):∀(i:Nat) (l:List Lck),(eh m k R i l).length<=l.length
 |i,[]=>by unfold eh;exact Nat.le_refl _
 |i,L::l=>by
  unfold eh;have:=Fz m k R (i+1) l;split
  ·simp;omega
  ·simp;omega
theorem ta(m:Md)(k sg:Int):∀(i:Nat) (l:List cn),(bK m k sg i l).length<=l.length
 |i,[]=>by unfold bK;exact Nat.le_refl _
 |i,x::l=>by
  unfold bK;have:=ta m k sg (i+1) l;split
  ·simp;omega
  ·simp;omega
def zL(m:Md)(p:Pln)(k R:Int):(cJ m p k R).length<=p.aw.length+p.aR.length:=by
 unfold cJ;rw[List.length_append];have h1:=ta m k 1 0 p.aw;have h2:=Fz m k R 0 p.aR;omega
def v_{m:Md}{p:Pln}{k sg:Int}(hv:dD m p=true)(hk:b9 m k=true)(hs:sg=1\/sg= -1){x:cP}(hx:x∈bK m k sg 0 p.aw):∃j:Nat,j <p.aw.length/\x=⟨0,(j:Int),0,x.n⟩/\0 <x.n/\x.n<=128000000000000:=by
 obtain⟨j,y,h1,h2,rfl⟩:=yM.1 hx;have u:=l6.1 hv;have v:=Fp (r:=rowOf m y) u.lc hk (u.row (List.mem_of_getElem? h1));refine⟨j,aF h1,by simp,h2,?_⟩;rcases hs with rfl|rfl <;>simp only <;>omega
def zM{m:Md}{p:Pln}{k R:Int}(hv:dD m p=true)(hk:b9 m k=true){x:cP}(hx:x∈cJ m p k R)(h0:x.k=0):∃j:Nat,j <p.aw.length/\x.i=(j:Int)/\0 <x.n/\x.n<=128000000000000:=by
 unfold cJ at hx;rcases List.mem_append.1 hx with hx|hx
 ·obtain⟨j,h1,h2,h3,h4⟩:=v_ hv hk (.inl rfl) hx;exact⟨j,h1,by rw[h2],h3,h4⟩
 ·exact absurd h0 (zK hx)
def zN{r:Nat}{sg:Int}{A:List cP}{q:Nat}{s:dF}(h:s∈cI r sg (A.take q)):s∈cI r sg A:=by
 unfold cI at h⊢;obtain⟨x,u,rfl⟩:=List.mem_map.1 h;rw[List.mem_filter]at u;exact List.mem_map.2 ⟨x,List.mem_filter.2 ⟨List.mem_of_mem_take u.1,u.2⟩,rfl⟩
def zO(e:Ev):Cl ai 75 [.t (cV e)] [] (.t (.bool (nh e))) []:=by
 refine Cl.ao rfl Tryz.func75 rfl rfl rfl ?_;unfold nh
 repeat'(first
|(with_reducible apply ac.seq)
|((with_reducible apply ac.text);(try case hm=>exact rfl))
|(with_reducible first|apply ac.ret|apply aa.ap)
|((with_reducible apply aa.gd);(case hW=>first|exact Ii rfl rfl|exact Ij rfl rfl|((with_reducible apply Ik);(case h=>exact rfl);(case he=>repeat(first|with_reducible exact BW _ _ _|(with_reducible refine BX rfl ?_)|with_reducible refine BZ ?_)))|((with_reducible apply Il);(case h=>exact rfl);(case he=>repeat(first|with_reducible exact BW _ _ _|(with_reducible refine BX rfl ?_)|with_reducible refine BZ ?_))));(case hx=>(intro u;(rw[u]);(first
|((with_reducible apply ae.x_);(case hy|ho=>exact rfl);(case hn=>(conv=>lhs;whnf);try exact rfl))
|exact ae.r fun _=>rfl))))
|((with_reducible apply aa.u0);(case hx=>first
|((with_reducible apply ae.mv);(conv=>lhs;whnf);try exact rfl)
|((with_reducible apply ae.asg);(conv=>lhs;whnf);try exact rfl)
|((with_reducible apply ae.x_);(case hy|ho=>exact rfl);(case hn=>(conv=>lhs;whnf);try exact rfl))
|((with_reducible apply ae.B5);(case hs=>exact fun _=>rfl);(case hy=>exact rfl);(case ho=>kernel_rfl);(case hn=>exact Ch);(case hf=>exact leq))
|((with_reducible apply ae.and);(case hc|hx|hy=>exact rfl))
|exact ae.r fun _=>rfl))
|fail)
 all_goals(refine aZ (.inr rfl) rfl ?_;simp)
end Go.Proofs.YtjolgbkkocjpgaaGreatDoor
