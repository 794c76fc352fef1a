/- The tree evaluator,35: rules for lists of lists of the. No condition. -/
import Derived.Test.YtjolgbkkocjpgaaGreatDoorTD
import Derived.Test.YtjolgbkkocjpgaaGreatDoorTX
import Derived.Test.YtjolgbkkocjpgaaGreatDoorTS
import Derived.Test.YtjolgbkkocjpgaaGreatDoorTLQ
import Derived.Test.YtjolgbkkocjpgaaGreatDoorTNI
set_option linter.all false
namespace Go.Proofs.YtjolgbkkocjpgaaGreatDoor
open Go.RowKit
section
variable {g:Cfg} {d:Option (List Nat)} {i:Nat} {env:Env} {fr:Fr}
def ac.tG{t e r k:Nat}{p:List Nat}{x y:Operand}{u:IntKind}{fs:List (List AV)}(ht:fy g.P t=some (e,1))(hx:rd env x=.lo r p)(hy:rd env y=.t (.int u (k:Int)))(hf:lT fr r p=some fs)(hk:k <fs.length):ac g d i env fr (.indexAddr t x y) (.lr r p k) fr []:=.p rfl rfl (by
 have h1:(Nat.beq 1 1&&jI (k:Int) fs.length)=true:=by
  unfold jI;simp;exact hk
 unfold bP jJ;simp only[ht,hx,hy,hf,h1];rfl)
def ac.tN{t n r k:Nat}{p q:List Nat}{y:Operand}{fs u:List (List AV)}(ht:bu g.P t=some (false,n))(hy:rd env y=.lr r p k)(hf:lT fr r p=some fs)(hk:fs[k]?=some [.arr u])(hq:p++[k]=q):ac g d i env fr (.load t y) (.lo r q) fr []:=.p rfl rfl (by
 subst hq;unfold bP fW;simp only[ht,hy,hf,hk])
def ac.tO{t n r k:Nat}{p:List Nat}{y:Operand}{fs:List (List AV)}{u:IntKind}{m:Int}(ht:bu g.P t=some (false,n))(hy:rd env y=.lr r p k)(hf:lT fr r p=some fs)(hk:fs[k]?=some [.int u m]):ac g d i env fr (.load t y) (.t (.int u m)) fr []:=.p rfl rfl (by
 unfold bP fW;simp only[ht,hy,hf,hk])
def ac.uA{t r k:Nat}{p:List Nat}{a y:Operand}{x v:AV}{fs:List (List AV)}{u:IntKind}{m z:Int}{fr':Fr}(hs:∀C:CallF,step g C d i env fr (.store t a y)=cd g C env fr (.store t a y))(ht:bu g.P t=some (false,1))(ha:rd env a=.lr r p k)(hy:rd env y=.t (.int u m))(hb:fr[r]?=some (.own false x))(hx:fR x p=some (.arr fs))(hk:fs[k]?=some [.int u z])(hv:setAt x p k (.int u m)=v)(hf:aI (fr.set r (.own false v)) fr'):ac g d i env fr (.store t a y) .dead fr' []:=.r fun C=>by
 obtain rfl:=hf.eq;subst hv;rw[hs];have h1:((bJ (.t (.int u m))).all dS&&Nat.beq (bJ (.t (.int u m))).length 1)=true:=rfl;show iV g.P fr t (rd env a) (rd env y)=_
 unfold iV Bl;simp only[ht,ha,hy,hb,hx,hk,h1,if_true]
def ac.sL{xt yt:TypeId}{x y:Operand}{m n:Int}(hx:rd env x=.t (.int .i64 m))(hy:rd env y=.t (.int .i64 n)):ac g d i env fr (.binOp .add xt x y yt) (.t (.int .i64 (IntKind.wrap .i64 (m+n)))) fr []:=
 .lu hx hy (by unfold h_;simp only[if_true,kJ])
end
def mV{fr:Fr}{i:Nat}{ro:Bool}{fs:List (List AV)}(h:fr[i]?=some (.own ro (.arr fs))):lT fr i []=some fs:=by
 unfold lT;simp only[h,fR]
def gF{fr:Fr}{i k:Nat}{ro:Bool}{fs u:List (List AV)}(h:fr[i]?=some (.own ro (.arr fs)))(hk:fs[k]?=some [.arr u]):lT fr i [k]=some u:=by
 unfold lT;simp only[h,fR,hk]
set_option maxRecDepth 100000
set_option maxHeartbeats 16000000
structure cz where
 i:Nat
 r:Nat
 a:Int
def bZ(l:List (List Int))(s:cz):Int:=(l.getD s.i []).getD s.r 0
def aP(l:List (List Int))(s:cz):List (List Int):=l.set s.i ((l.getD s.i []).set s.r (IntKind.i64.wrap (bZ l s+s.a)))
def ow(c n:Int):Int:=if c=0 then(if n <0 then 9 else if 1000000000000 <n then 8 else 0)else c
def bL(z:List (List Int)×Int)(s:cz):List (List Int)×Int:=(aP z.1 s,ow z.2 (bZ (aP z.1 s) s))
def bM(N R:Nat)(l:List (List Int)):Prop:=l.length=N/\∀x∈l,x.length=R
def bW(N R:Nat)(s:cz):Prop:=s.i <N/\s.r <R
def na{N R:Nat}{l:List (List Int)}{s:cz}(h:bM N R l)(hs:bW N R s):∃x n,l[s.i]?=some x/\x[s.r]?=some n/\x.length=R/\bZ l s=n/\aP l s=l.set s.i (x.set s.r (IntKind.i64.wrap (n+s.a))):=by
 obtain⟨x,u⟩:=aj (xs:=l) (k:=s.i) (by rw[h.1];exact hs.1);have z:=h.2 x (List.mem_of_getElem? u);obtain⟨n,D⟩:=aj (xs:=x) (k:=s.r) (by rw[z];exact hs.2);have v:l.getD s.i []=x:=by rw[List.getD_eq_getElem?_getD,u];rfl
 have y:bZ l s=n:=by unfold bZ;rw[v,List.getD_eq_getElem?_getD,D];rfl
 exact⟨x,n,u,D,z,y,by unfold aP;rw[y,v]⟩
def lX{N R:Nat}{l:List (List Int)}{s:cz}(h:bM N R l)(hs:bW N R s):bM N R (aP l s):=by
 obtain⟨x,n,h1,h2,h3,_,v⟩:=na h hs;rw[v];refine⟨by rw[List.length_set];exact h.1,fun y u=>?_⟩;rcases List.mem_or_eq_of_mem_set u with u|rfl
 ·exact h.2 y u
 ·rw[List.length_set];exact h3
def GA{l:List (List Int)}{x:List Int}{i r:Nat}{v:Int}(hx:l[i]?=some x):setAt (fx l) [i] r (.int .i64 v)=fx (l.set i (x.set r v)):=by
 have h1:(aF l)[i]?=some [.arr (aE x)]:=iG hx;unfold fx;rw[setAt];simp only[h1,setAt];have h2:(aE x).set r [.int .i64 v]=aE (x.set r v):=by unfold aE;rw[List.map_set]
 rw[h2];unfold aF;rw[List.map_set];rfl
def wJ{N R:Nat}{l:List (List Int)}{s:cz}(h:bM N R l)(hs:bW N R s):Cl ah 49 [.t (.int .i64 (s.i:Int)),.t (.int .i64 (s.r:Int)),.t (.int .i64 s.a),.lp 0 0] [.box false 38 [.lo 1 []],.own false (.arr (aF l))] (.aJ []) [.box false 38 [.lo 1 []],.own false (.arr (aF (aP l s)))]:=by
 obtain⟨x,n,hx,G,J,_,y⟩:=na h hs;have u:(aF l)[s.i]?=some [.arr (aE x)]:=iG hx;have v:(aE x)[s.r]?=some [.int .i64 n]:=aW G;have D:s.i <(aF l).length:=aC u;have I:s.r <(aE x).length:=aC v;have hv:setAt (.arr (aF l)) [s.i] s.r (.int .i64 (IntKind.i64.wrap (n+s.a)))=.arr (aF (aP l s)):=by rw[y];exact GA hx
 have z:fR (.arr (aF l)) [s.i]=some (.arr (aE x)):=by simp only[fR,u]
 refine Cl.aq rfl Tryz.func49 rfl rfl rfl ?_
 repeat'(first
|(refine ar ?_)
|((with_reducible apply aa.u0);(case hx=>first
|((with_reducible apply ac.tG);(case ht|hx|hy=>exact rfl);(case hf=>first|exact mV rfl|exact gF rfl u);(case hk=>assumption))
|((with_reducible apply ac.tN);(case ht|hy=>exact rfl);(case hf=>exact mV rfl);(case hk=>exact u);(case hq=>exact rfl))
|((with_reducible apply ac.tO);(case ht|hy=>exact rfl);(case hf=>exact gF rfl u);(case hk=>exact v))
|((with_reducible apply ac.uA);(case hs=>exact fun _=>rfl);(case ht|ha|hy|hb=>exact rfl);(case hx=>exact z);(case hk=>exact v);(case hv=>exact hv);(case hf=>exact leq))
|(exact ac.sL (m:=n) (n:=s.a) rfl rfl)
|exact af))
|fail)
 exact⟨.inl rfl,rfl⟩
def u5{N R:Nat}{l:List (List Int)}{s:cz}{c:Int}(h:bM N R l)(hs:bW N R s):Cl ah 41 [.t (.int .i64 (s.i:Int)),.t (.int .i64 (s.r:Int)),.t (.int .i64 s.a),.lp 0 0,.lp 1 0] [.box false 38 [.lo 2 []],.box false 39 [.t (.int .i64 c)],.own false (.arr (aF l))] (.aJ []) [.box false 38 [.lo 2 []],.box false 39 [.t (.int .i64 (ow c (bZ (aP l s) s)))],.own false (.arr (aF (aP l s)))]:=by
 obtain⟨x,n,hx,hn,hl,_,G⟩:=na h hs;obtain⟨x2,Z,V,J,_,I,_⟩:=na (lX h hs) hs;have u:(aF l)[s.i]?=some [.arr (aE x)]:=iG hx;have y:(aE x)[s.r]?=some [.int .i64 n]:=aW hn;have ab:s.i <(aF l).length:=aC u;have ad:s.r <(aE x).length:=aC y;have hv:setAt (.arr (aF l)) [s.i] s.r (.int .i64 (IntKind.i64.wrap (n+s.a)))=.arr (aF (aP l s)):=by rw[G];exact GA hx
 have D:fR (.arr (aF l)) [s.i]=some (.arr (aE x)):=by simp only[fR,u]
 have v:(aF (aP l s))[s.i]?=some [.arr (aE x2)]:=iG V;have z:(aE x2)[s.r]?=some [.int .i64 Z]:=aW J;have U:s.i <(aF (aP l s)).length:=aC v;have ag:s.r <(aE x2).length:=aC z;rw[I];clear I;unfold ow;generalize hL:aF (aP l s)=L at v U hv⊢;refine Cl.aq rfl Tryz.func41 rfl rfl rfl ?_;by_cases hc:c=0
 ·
  subst hc;rw[if_pos rfl];by_cases h1:Z <0
  ·
   rw[if_pos h1]
   repeat'(first
|(refine aY ?_)
|(refine ar ?_)
|((with_reducible apply aa.u0);(case hx=>first
|((with_reducible apply ac.tG);(case ht|hx|hy=>exact rfl);(case hf=>first|exact mV rfl|exact gF rfl u|exact gF rfl v);(case hk=>assumption))
|((with_reducible apply ac.tN);(case ht|hy=>exact rfl);(case hf=>exact mV rfl);(case hk=>first|exact u|exact v);(case hq=>exact rfl))
|((with_reducible apply ac.tO);(case ht|hy=>exact rfl);(case hf=>first|exact gF rfl u|exact gF rfl v);(case hk=>first|exact y|exact z))
|((with_reducible apply ac.uA);(case hs=>exact fun _=>rfl);(case ht|ha|hy|hb=>exact rfl);(case hx=>exact D);(case hk=>exact y);(case hv=>exact hv);(case hf=>exact leq))
|(exact ac.sL (m:=n) (n:=s.a) rfl rfl)
|exact af))
|fail)
   exact⟨.inl rfl,rfl⟩
  ·
   rw[if_neg h1];by_cases h2:1000000000000 <Z
   ·
    rw[if_pos h2]
    repeat'(first
|(refine aY ?_)
|(refine ar ?_)
|((with_reducible apply aa.u0);(case hx=>first
|((with_reducible apply ac.tG);(case ht|hx|hy=>exact rfl);(case hf=>first|exact mV rfl|exact gF rfl u|exact gF rfl v);(case hk=>assumption))
|((with_reducible apply ac.tN);(case ht|hy=>exact rfl);(case hf=>exact mV rfl);(case hk=>first|exact u|exact v);(case hq=>exact rfl))
|((with_reducible apply ac.tO);(case ht|hy=>exact rfl);(case hf=>first|exact gF rfl u|exact gF rfl v);(case hk=>first|exact y|exact z))
|((with_reducible apply ac.uA);(case hs=>exact fun _=>rfl);(case ht|ha|hy|hb=>exact rfl);(case hx=>exact D);(case hk=>exact y);(case hv=>exact hv);(case hf=>exact leq))
|(exact ac.sL (m:=n) (n:=s.a) rfl rfl)
|exact af))
|fail)
    exact⟨.inl rfl,rfl⟩
   ·
    rw[if_neg h2]
    repeat'(first
|(refine aY ?_)
|(refine ar ?_)
|((with_reducible apply aa.u0);(case hx=>first
|((with_reducible apply ac.tG);(case ht|hx|hy=>exact rfl);(case hf=>first|exact mV rfl|exact gF rfl u|exact gF rfl v);(case hk=>assumption))
|((with_reducible apply ac.tN);(case ht|hy=>exact rfl);(case hf=>exact mV rfl);(case hk=>first|exact u|exact v);(case hq=>exact rfl))
|((with_reducible apply ac.tO);(case ht|hy=>exact rfl);(case hf=>first|exact gF rfl u|exact gF rfl v);(case hk=>first|exact y|exact z))
|((with_reducible apply ac.uA);(case hs=>exact fun _=>rfl);(case ht|ha|hy|hb=>exact rfl);(case hx=>exact D);(case hk=>exact y);(case hv=>exact hv);(case hf=>exact leq))
|(exact ac.sL (m:=n) (n:=s.a) rfl rfl)
|exact af))
|fail)
    exact⟨.inl rfl,rfl⟩
 ·
  rw[if_neg hc]
  repeat'(first
|((with_reducible apply aa.la);(case hp=>exact aA))
|(refine ar ?_)
|((with_reducible apply aa.u0);(case hx=>first
|((with_reducible apply ac.tG);(case ht|hx|hy=>exact rfl);(case hf=>first|exact mV rfl|exact gF rfl u|exact gF rfl v);(case hk=>assumption))
|((with_reducible apply ac.tN);(case ht|hy=>exact rfl);(case hf=>exact mV rfl);(case hk=>first|exact u|exact v);(case hq=>exact rfl))
|((with_reducible apply ac.tO);(case ht|hy=>exact rfl);(case hf=>first|exact gF rfl u|exact gF rfl v);(case hk=>first|exact y|exact z))
|((with_reducible apply ac.uA);(case hs=>exact fun _=>rfl);(case ht|ha|hy|hb=>exact rfl);(case hx=>exact D);(case hk=>exact y);(case hv=>exact hv);(case hf=>exact leq))
|(exact ac.sL (m:=n) (n:=s.a) rfl rfl)
|exact af))
|fail)
  exact⟨.inl rfl,rfl⟩
set_option maxHeartbeats 32000000
def gQ(n:Int):Bool:=decide (0<=n)&&decide (n<=1000000000000)
def eI(p:Pln)(R:Int)(l:List (List Int)):Bool:=(decide (1<=R)&&decide (R<=5))&&(decide (l.length=p.ao.length)&&l.all fun x=>decide ((x.length:Int)=R)&&x.all gQ)
def eM:List (List Int)->Int
 |[]=>5
 |x::_=>x.length
def fq(e:Ev):Bool:=decide (e.k=1)&&decide (e.gk=0)
def fC(m:Md)(p:Pln)(n:Int)(e:Ev):Bool:=fu m n e&&(!fq e ||decide (e.gi <p.ao.length))
def bn(r:Nat)(sg:Int)(A:List bE):List cz:=(A.filter fun x=>decide (x.k=0)).map fun x=>⟨x.i.toNat,r,sg*x.n⟩
def o9{r:Nat}{sg:Int}{A:List bE}{q:Nat}{x:bE}(h:A[q]?=some x):bn r sg (A.take (q+1))=bn r sg (A.take q)++if x.k=0 then[⟨x.i.toNat,r,sg*x.n⟩]else[]:=by
 unfold bn;rw[List.take_add_one,List.filter_append,List.map_append,h];by_cases u:x.k=0
 ·simp[u]
 ·simp[u]
def du(m:Md)(p:Pln)(e:Ev):List cz:=if e.k=0 then bn e.r.toNat (-1) (bO m p e.a e.past.length)++bn e.r.toNat 1 (aT m e.a (-1) 0 p.ao)else if fq e=true then[⟨e.gi.toNat,e.r.toNat,0 - e.ga⟩,⟨e.gi.toNat,e.to.toNat,e.ga⟩]else[]
structure lh (m:Md) (p:Pln) (e:Ev):Prop where
 pw:PW m p
 past:1<=e.past.length/\e.past.length<=5
 r:0<=e.r/\e.r <e.past.length
 act:e.k=0->rD m p e.a e.past.length=true
 tr:fq e=true->(0<=e.gi/\e.gi <p.ao.length)/\(0<=e.to/\e.to <e.past.length)/\1<=e.ga/\e.ga<=1000000
 eN:p.ao.length<=1000
theorem xm{m:Md}{k R:Int}:∀{l:List Lck} {i:Nat} {x:bE},x∈dt m k R i l->x.k≠0
 |[],i,x,h=>by unfold dt at h;cases h
 |L::l,i,x,h=>by
  unfold dt at h;split at h
  ·rcases List.mem_cons.1 h with rfl|h
   ·exact fun h=>absurd h (by show¬(1:Int)=0;decide)
   ·exact xm h
  ·exact xm h
theorem GL(m:Md)(k R:Int):∀(i:Nat) (l:List Lck),(dt m k R i l).length<=l.length
 |i,[]=>by unfold dt;exact Nat.le_refl _
 |i,L::l=>by
  unfold dt;have:=GL m k R (i+1) l;split
  ·simp;omega
  ·simp;omega
theorem ou(m:Md)(k sg:Int):∀(i:Nat) (l:List bI),(aT m k sg i l).length<=l.length
 |i,[]=>by unfold aT;exact Nat.le_refl _
 |i,x::l=>by
  unfold aT;have:=ou m k sg (i+1) l;split
  ·simp;omega
  ·simp;omega
def rR(m:Md)(p:Pln)(k R:Int):(bO m p k R).length<=p.ao.length+p.aD.length:=by
 unfold bO;rw[List.length_append];have h1:=ou m k 1 0 p.ao;have h2:=GL m k R 0 p.aD;omega
def nw{m:Md}{p:Pln}{k sg:Int}(hv:cX m p=true)(hk:bC m k=true)(hs:sg=1\/sg= -1){x:bE}(hx:x∈aT m k sg 0 p.ao):∃j:Nat,j <p.ao.length/\x=⟨0,(j:Int),0,x.n⟩/\0 <x.n/\x.n<=128000000000000:=by
 obtain⟨j,y,h1,h2,rfl⟩:=zY.1 hx;have u:=jR.1 hv;have v:=vg (r:=rowOf m y) u.kV hk (u.row (List.mem_of_getElem? h1));refine⟨j,aC h1,by simp,h2,?_⟩;rcases hs with rfl|rfl <;>simp only <;>omega
def wC{m:Md}{p:Pln}{k R:Int}(hv:cX m p=true)(hk:bC m k=true){x:bE}(hx:x∈bO m p k R)(h0:x.k=0):∃j:Nat,j <p.ao.length/\x.i=(j:Int)/\0 <x.n/\x.n<=128000000000000:=by
 unfold bO at hx;rcases List.mem_append.1 hx with hx|hx
 ·obtain⟨j,h1,h2,h3,h4⟩:=nw hv hk (.inl rfl) hx;exact⟨j,h1,by rw[h2],h3,h4⟩
 ·exact absurd h0 (xm hx)
def uy{r:Nat}{sg:Int}{A:List bE}{q:Nat}{s:cz}(h:s∈bn r sg (A.take q)):s∈bn r sg A:=by
 unfold bn at h⊢;obtain⟨x,u,rfl⟩:=List.mem_map.1 h;rw[List.mem_filter]at u;exact List.mem_map.2 ⟨x,List.mem_filter.2 ⟨List.mem_of_mem_take u.1,u.2⟩,rfl⟩
def Bz(e:Ev):Cl ah 75 [.t (bN e)] [] (.t (.bool (fq e))) []:=by
 refine Cl.aq rfl Tryz.func75 rfl rfl rfl ?_;unfold fq
 repeat'(first
|(refine ar ?_)
|((with_reducible apply aa.gd);(case hW=>first|exact Du rfl rfl|exact Dt rfl rfl|((with_reducible apply Dr);(case h=>exact rfl);(case he=>repeat(first|with_reducible exact vA _ _ _|(with_reducible refine vC rfl ?_)|with_reducible refine vB ?_)))|((with_reducible apply Dq);(case h=>exact rfl);(case he=>repeat(first|with_reducible exact vA _ _ _|(with_reducible refine vC rfl ?_)|with_reducible refine vB ?_))));(case hx=>(intro u;(rw[u]);(first
|((with_reducible apply ac.rj);(case hy|ho=>exact rfl);(case hn=>(conv=>lhs;whnf);try exact rfl))
|exact ac.r fun _=>rfl))))
|((with_reducible apply aa.u0);(case hx=>first
|((with_reducible apply ac.mv);(conv=>lhs;whnf);try exact rfl)
|((with_reducible apply ac.asg);(conv=>lhs;whnf);try exact rfl)
|((with_reducible apply ac.rj);(case hy|ho=>exact rfl);(case hn=>(conv=>lhs;whnf);try exact rfl))
|((with_reducible apply ac.Co);(case hs=>exact fun _=>rfl);(case hy=>exact rfl);(case ho=>kernel_rfl);(case hn=>exact zS);(case hf=>exact leq))
|((with_reducible apply ac.and);(case hc|hx|hy=>exact rfl))
|exact ac.r fun _=>rfl))
|fail)
 all_goals(refine a_ (.inr rfl) rfl ?_;simp)
end Go.Proofs.YtjolgbkkocjpgaaGreatDoor
