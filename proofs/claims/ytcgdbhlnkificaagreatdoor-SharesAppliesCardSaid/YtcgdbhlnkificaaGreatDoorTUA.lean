/- The tree evaluator,35: rules for lists of lists of the. No condition. -/
import Derived.Test.YtcgdbhlnkificaaGreatDoorTD
import Derived.Test.YtcgdbhlnkificaaGreatDoorTX
import Derived.Test.YtcgdbhlnkificaaGreatDoorTCX
import Derived.Test.YtcgdbhlnkificaaGreatDoorTS
import Derived.Test.YtcgdbhlnkificaaGreatDoorTLQ
import Derived.Test.YtcgdbhlnkificaaGreatDoorTNI
set_option linter.all false
namespace Go.Proofs.YtcgdbhlnkificaaGreatDoor
open Go.RowKit
section
variable {g:Cfg} {d:Option (List Nat)} {i:Nat} {env:Env} {fr:Fr}
def af.sY{t e r k:Nat}{p:List Nat}{x y:Operand}{u:IntKind}{fs:List (List AV)}(ht:eZ g.P t=some (e,1))(hx:rd env x=.lo r p)(hy:rd env y=.t (.int u (k:Int)))(hf:jK fr r p=some fs)(hk:k <fs.length):af g d i env fr (.indexAddr t x y) (.lr r p k) fr []:=.p rfl rfl (by
 have h1:(Nat.beq 1 1&&jC (k:Int) fs.length)=true:=by
  unfold jC;simp;exact hk
 unfold bD jD;simp only[ht,hx,hy,hf,h1];rfl)
def af.mu{t n r k:Nat}{p q:List Nat}{y:Operand}{fs u:List (List AV)}(ht:bn g.P t=some (false,n))(hy:rd env y=.lr r p k)(hf:jK fr r p=some fs)(hk:fs[k]?=some [.arr u])(hq:p++[k]=q):af g d i env fr (.load t y) (.lo r q) fr []:=.p rfl rfl (by
 subst hq;unfold bD fO;simp only[ht,hy,hf,hk])
def af.oy{t n r k:Nat}{p:List Nat}{y:Operand}{fs:List (List AV)}{u:IntKind}{m:Int}(ht:bn g.P t=some (false,n))(hy:rd env y=.lr r p k)(hf:jK fr r p=some fs)(hk:fs[k]?=some [.int u m]):af g d i env fr (.load t y) (.t (.int u m)) fr []:=.p rfl rfl (by
 unfold bD fO;simp only[ht,hy,hf,hk])
def af.tR{t r k:Nat}{p:List Nat}{a y:Operand}{x v:AV}{fs:List (List AV)}{u:IntKind}{m z:Int}{fr':Fr}(hs:∀C:CallF,step g C d i env fr (.store t a y)=bX g C env fr (.store t a y))(ht:bn g.P t=some (false,1))(ha:rd env a=.lr r p k)(hy:rd env y=.t (.int u m))(hb:fr[r]?=some (.own false x))(hx:fg x p=some (.arr fs))(hk:fs[k]?=some [.int u z])(hv:setAt x p k (.int u m)=v)(hf:aI (fr.set r (.own false v)) fr'):af g d i env fr (.store t a y) .dead fr' []:=.r fun C=>by
 obtain rfl:=hf.eq;subst hv;rw[hs];have h1:((bw (.t (.int u m))).all du&&Nat.beq (bw (.t (.int u m))).length 1)=true:=rfl;show ik g.P fr t (rd env a) (rd env y)=_
 unfold ik Aw;simp only[ht,ha,hy,hb,hx,hk,h1,if_true]
def af.sf{xt yt:TypeId}{x y:Operand}{m n:Int}(hx:rd env x=.t (.int .i64 m))(hy:rd env y=.t (.int .i64 n)):af g d i env fr (.binOp .add xt x y yt) (.t (.int .i64 (IntKind.wrap .i64 (m+n)))) fr []:=
 .mg hx hy (by unfold iw;simp only[if_true,lA])
end
def mC{fr:Fr}{i:Nat}{ro:Bool}{fs:List (List AV)}(h:fr[i]?=some (.own ro (.arr fs))):jK fr i []=some fs:=by
 unfold jK;simp only[h,fg]
def gu{fr:Fr}{i k:Nat}{ro:Bool}{fs u:List (List AV)}(h:fr[i]?=some (.own ro (.arr fs)))(hk:fs[k]?=some [.arr u]):jK fr i [k]=some u:=by
 unfold jK;simp only[h,fg,hk]
set_option maxRecDepth 100000
set_option maxHeartbeats 16000000
structure jX where
 i:Nat
 k:Nat
 r:Nat
 a:Int
def ky(l:aO)(s:jX):Int:=((l.getD s.i []).getD s.k []).getD s.r 0
def cE(l:aO)(s:jX):aO:=l.set s.i ((l.getD s.i []).set s.k (((l.getD s.i []).getD s.k []).set s.r (IntKind.i64.wrap (ky l s+s.a))))
def ig(N:Int)(z:aO×Bool)(s:jX):aO×Bool:=(cE z.1 s,z.2&&(decide (0<=ky (cE z.1 s) s)&&decide (ky (cE z.1 s) s<=N)))
def mO(l:aO)(s:jX):Prop:=∃x y n,l[s.i]?=some x/\x[s.k]?=some y/\y[s.r]?=some n
def qZ{l:aO}{s:jX}(h:mO l s):∃x y n,l[s.i]?=some x/\x[s.k]?=some y/\y[s.r]?=some n/\ky l s=n/\cE l s=l.set s.i (x.set s.k (y.set s.r (IntKind.i64.wrap (n+s.a)))):=by
 obtain⟨x,y,n,h1,h2,h3⟩:=h;have u:l.getD s.i []=x:=by rw[List.getD_eq_getElem?_getD,h1];rfl
 have v:x.getD s.k []=y:=by rw[List.getD_eq_getElem?_getD,h2];rfl
 have z:ky l s=n:=by unfold ky;rw[u,v,List.getD_eq_getElem?_getD,h3];rfl
 exact⟨x,y,n,h1,h2,h3,z,by unfold cE;rw[z,u,v]⟩
def eG(l z:aO):Prop:=z.map (·.map List.length)=l.map (·.map List.length)
def eG.get{l z:aO}(h:eG l z)(i:Nat):(z[i]?).map (·.map List.length)=(l[i]?).map (·.map List.length):=by
 have:=congrArg (fun l=>l[i]?) h;simpa[List.getElem?_map]using this
def FG{α:Type}{l:List α}{i:Nat}{x:α}(h:l[i]?=some x):l.set i x=l:=by
 apply List.ext_getElem?;intro k;rw[List.getElem?_set];split
 ·rename_i u;subst u;rw[if_pos (aC h),h]
 ·rfl
def Q0{l:aO}{s:jX}(h:mO l s):eG l (cE l s):=by
 obtain⟨x,y,n,h1,h2,h3,_,v⟩:=qZ h;unfold eG;rw[v,List.map_set,List.map_set,List.length_set];have u:(x.map List.length)[s.k]?=some y.length:=by rw[List.getElem?_map,h2];rfl
 rw[FG u];exact FG (by rw[List.getElem?_map,h1];rfl)
def eG.yD{l z:aO}{s:jX}(h:eG l z)(hs:mO l s):mO z s:=by
 obtain⟨x,y,n,h1,h2,h3⟩:=hs;have u:=h.get s.i;rw[h1,Option.map_some]at u
 cases D:z[s.i]? with
 |none=>rw[D]at u;cases u
 |some J=>
  rw[D,Option.map_some]at u;have v:=congrArg (fun l=>l[s.k]?) (Option.some.inj u);simp only[List.getElem?_map,h2,Option.map_some]at v
  cases G:J[s.k]? with
  |none=>rw[G]at v;cases v
  |some I=>
   rw[G,Option.map_some]at v;have U:I.length=y.length:=Option.some.inj v;obtain⟨Z,V⟩:=am (xs:=I) (k:=s.r) (by rw[U];exact aC h3);exact⟨J,I,Z,D,G,V⟩
def eG.refl(l:aO):eG l l:=rfl
theorem eG.trans{a b c:aO}(h:eG a b)(u:eG b c):eG a c:=Eq.trans u h
def FH{l:aO}{x:List (List Int)}{y:List Int}{i k r:Nat}{v:Int}(hx:l[i]?=some x)(hy:x[k]?=some y):setAt (p8 l) [i,k] r (.int .i64 v)=p8 (l.set i (x.set k (y.set r v))):=by
 have h1:=mG hx;have h2:(bA x)[k]?=some [.arr (aL y)]:=lf hy;unfold p8;rw[setAt];simp only[h1];rw[setAt];simp only[h2,setAt];have h3:(aL y).set r [.int .i64 v]=aL (y.set r v):=by unfold aL;rw[List.map_set]
 rw[h3];unfold aU bA;rw[List.map_set];unfold jp bA;rw[List.map_set];rfl
def d_{fr:Fr}{i k y:Nat}{ro:Bool}{fs v hs:List (List AV)}(h:fr[i]?=some (.own ro (.arr fs)))(hk:fs[k]?=some [.arr v])(u:v[y]?=some [.arr hs]):jK fr i [k,y]=some hs:=by
 unfold jK;simp only[h,fg,hk,u]
def kX(R n:Int):Bool:=decide (0<=n)&&decide (n<=R)
def oL(R:Int)(y:List Int):Bool:=decide ((y.length:Int)=R)&&y.all (kX R)
def mF(m:Md)(p:Pln)(R:Int)(i:Nat)(x:List (List Int)):Bool:=decide ((x.length:Int)=eu m p i)&&x.all (oL R)
def cT(m:Md)(p:Pln)(R:Int)(l:aO):Bool:=cy m p&&((decide (1<=R)&&decide (R<=5))&&(decide (l.length=p.aA.length)&&allI (mF m p R) l))
def iY(m:Md)(p:Pln)(R:Int):aO:=(List.range p.aA.length).map fun(i:Nat)=>List.replicate (eu m p (i:Int)).toNat (List.replicate R.toNat 1)
def mI(m:Md)(p:Pln)(R:Int):aO×Int:=if cy m p=true/\1<=R/\R<=5 then(iY m p R,0)else([],1)
def og(l:aO)(r:Int)(x:cz):Int:=((l.getD x.i.toNat []).getD x.el.toNat []).getD r.toNat 0
def fq(l:aO)(r:Int):List cz->List cz
 |[]=>[]
 |x::A=>if x.k=1/\og l r x <x.n then⟨x.k,x.i,x.el,x.n - og l r x⟩::fq l r A else fq l r A
def rP(m:Md)(p:Pln)(R:Int)(l:aO)(r a:Int):List cz×Int:=if cT m p R l=true then(if(0<=r/\r <R)/\0<=a/\a <m.ax.length then(fq l r (dS m p a R),0)else([],2))else([],1)
def gE(e:Ev):Bool:=decide (e.k=1)&&decide (e.gk=1)
def gl(m:Md)(p:Pln)(R:Int)(e:Ev):Bool:=qj m R e&&(!gE e ||(decide (e.gi <p.aA.length)&&decide (e.ge <eu m p e.gi)))
def ij(e:Ev):List jX:=if gE e=true then[⟨e.gi.toNat,e.ge.toNat,e.r.toNat,0 - e.ga⟩,⟨e.gi.toNat,e.ge.toNat,e.to.toNat,e.ga⟩]else[]
def gM(m:Md)(p:Pln)(l:aO)(e:Ev):aO×Int:=if cy m p=true/\gl m p e.past.length e=true/\cT m p e.past.length l=true then
  (if e.k=0/\fq l e.r (dS m p e.a e.past.length)≠[]then([],9)else
   if((ij e).foldl (ig e.past.length) (l,true)).2=true then((ij e).foldl cE l,0)else([],9))else([],1)
def cS(z:aO)(e:Ev):aO:=(ij e).foldl cE z
def jd(m:Md)(p:Pln)(R:Int)(l:aO)(E:List Ev):aO×Int:=if cT m p R l=true/\(E.all fun e=>gl m p R e)=true then(E.foldl cS l,0)else([],1)
def DN(l:aO)(r:Int)(x:cz)(A:List cz):fq l r (x::A)=if x.k=1/\og l r x <x.n then⟨x.k,x.i,x.el,x.n - og l r x⟩::fq l r A else fq l r A:=rfl
theorem y_(l:aO)(r:Int):∀A B:List cz,fq l r (A++B)=fq l r A++fq l r B
 |[],B=>rfl
 |x::A,B=>by
  rw[List.cons_append,DN,DN];split
  ·rw[y_ l r A B];rfl
  ·exact y_ l r A B
def LI{l:aO}{r:Int}{A:List cz}{q:Nat}{x:cz}(h:A[q]?=some x):fq l r (A.take (q+1))=fq l r (A.take q)++if x.k=1/\og l r x <x.n then[⟨x.k,x.i,x.el,x.n - og l r x⟩]else[]:=by
 rw[List.take_add_one,h,y_];congr 1
def lU{m:Md}{p:Pln}{R:Int}{l:aO}:cT m p R l=true↔cy m p=true/\(1<=R/\R<=5)/\l.length=p.aA.length/\∀(i:Nat) (x:List (List Int)),l[i]?=some x->(x.length:Int)=eu m p i/\∀y∈x,(y.length:Int)=R/\∀n∈y,0<=n/\n<=R:=by
 unfold cT;simp only[Bool.and_eq_true,decide_eq_true_eq,eU,mF,oL,kX,List.all_eq_true]
def qI(m:Md)(p:Pln)(i:Int):0<=eu m p i/\eu m p i<=6:=by
 unfold eu;split
 ·rename_i h;rw[Bool.and_eq_true]at h;have u:=za (kU.1 h.1).lH
  have hs:ck m.ao=true:=by
   unfold bJ at u;simp only[Bool.and_eq_true]at u;exact u.1.2.1
  unfold n9;split
  ·omega
  ·rw[List.getD_eq_getElem?_getD]
   cases v:m.ao[(gz m (ox p i).a (ox p i).pa).toNat]? with
   |none=>simp
   |some n=>
    have:=Aq hs v;simp;omega
 ·omega
def LZ{m:Md}{p:Pln}{a R:Int}(hv:cy m p=true)(J:1<=R){x:cz}(hx:x∈dS m p a R)(h1:x.k=1):∃j:Nat,j <p.aA.length/\x.i=(j:Int)/\(0<=x.el/\x.el <eu m p (j:Int))/\1<=x.n/\x.n<=R:=by
 unfold dS at hx;rcases List.mem_append.1 hx with hx|hx
 ·obtain⟨j,y,_,_,rfl⟩:=yW.1 hx;exact absurd h1 (show¬(0:Int)=1 by decide)
 ·obtain⟨j,L,u,I,rfl⟩:=yX.1 hx;have G:=aC u
  have v:eu m p (j:Int)=n9 m L:=by
   unfold eu q6 ox;rw[hv,decide_eq_true (show(0:Int)<=(j:Int) by omega),decide_eq_true (show(j:Int)<p.aA.length by omega),Int.toNat_natCast,List.getD_eq_getElem?_getD,u];rfl
  have z:=lE.1 ((kU.1 hv).lock L (List.mem_of_getElem? u));have D:=Ca (k:=a) (kU.1 hv).lH z I;refine⟨j,G,by simp,by rw[v];exact D,?_⟩;dsimp only;split <;>omega
def JS{m:Md}{p:Pln}{R:Int}{l:aO}(h:cT m p R l=true){a:Int}{x:cz}(hx:x∈dS m p a R)(h1:x.k=1){r:Nat}(hr:(r:Int)<R):∃(i k:Nat) (X:List (List Int)) (Y:List Int) (n:Int),x.i=(i:Int)/\x.el=(k:Int)/\l[i]?=some X/\X[k]?=some Y/\Y[r]?=some n/\og l (r:Int) x=n/\(0<=n/\n<=R)/\1<=x.n/\x.n<=R:=by
 obtain⟨hv,V,hl,hi⟩:=lU.1 h;obtain⟨j,hj,G,⟨J,e3⟩,U⟩:=LZ hv V.1 hx h1;obtain⟨k,I⟩:=Int.eq_ofNat_of_zero_le J;obtain⟨X,u⟩:=am (xs:=l) (k:=j) (by omega);obtain⟨Z,v⟩:=hi j X u;obtain⟨Y,y⟩:=am (xs:=X) (k:=k) (by omega);obtain⟨ab,z⟩:=v Y (List.mem_of_getElem? y);obtain⟨n,D⟩:=am (xs:=Y) (k:=r) (by omega);refine⟨j,k,X,Y,n,G,I,u,y,D,?_,z n (List.mem_of_getElem? D),U⟩;unfold og;rw[G,I,Int.toNat_natCast,Int.toNat_natCast,Int.toNat_natCast,List.getD_eq_getElem?_getD,List.getD_eq_getElem?_getD,List.getD_eq_getElem?_getD,u,Option.getD_some,y,Option.getD_some,D];rfl
theorem DO(l:aO)(r:Int):∀A:List cz,(fq l r A).length<=A.length
 |[]=>Nat.le_refl _
 |x::A=>by
  have u:=DO l r A;unfold fq;split
  ·simp only[List.length_cons];omega
  ·simp only[List.length_cons];omega
def mU{α:Type}{l:List α}{f:α->Bool}{q:Nat}{x:α}(hx:l[q]?=some x)(h:(l.take q).all f=true):(l.take (q+1)).all f=f x:=by
 rw[List.take_add_one,List.all_append,h,hx];simp
def jm{α:Type}{l:List α}{f:α->Bool}{x:α}(hx:x∈l)(h:f x=false):l.all f=false:=by
 rw[<- Bool.not_eq_true];intro u;have:=List.all_eq_true.1 u x hx;rw[h]at this;cases this
theorem A_{α:Type}(p:α->Bool):∀l:List α,(l.any fun x=>!p x)=!l.all p
 |[]=>rfl
 |x::l=>by
  rw[List.any_cons,List.all_cons,A_ p l,Bool.not_and]
set_option maxHeartbeats 32000000
def F8{l:aO}{s:jX}(h:mO l s):Cl aj 54 [.t (.int .i64 (s.i:Int)),.t (.int .i64 (s.k:Int)),.t (.int .i64 (s.r:Int)),.t (.int .i64 s.a),.lp 0 0] [.box false 36 [.lo 1 []],.own false (.arr (aU l))] (.aN []) [.box false 36 [.lo 1 []],.own false (.arr (aU (cE l s)))]:=by
 obtain⟨x,y,n,hx,hy,V,_,D⟩:=qZ h;have u:(aU l)[s.i]?=some [.arr (bA x)]:=mG hx;have v:(bA x)[s.k]?=some [.arr (aL y)]:=lf hy;have z:(aL y)[s.r]?=some [.int .i64 n]:=bg V;have I:s.i <(aU l).length:=aC u;have J:s.k <(bA x).length:=aC v;have U:s.r <(aL y).length:=aC z;have hv:setAt (.arr (aU l)) [s.i,s.k] s.r (.int .i64 (IntKind.i64.wrap (n+s.a)))=.arr (aU (cE l s)):=by rw[D];exact FH hx hy
 have G:fg (.arr (aU l)) [s.i,s.k]=some (.arr (aL y)):=by simp only[fg,u,v]
 refine Cl.ap rfl Tryz.func54 rfl rfl rfl ?_
 repeat'(first
|(refine aw ?_)
|((with_reducible apply aa.u0);(case hx=>first
|((with_reducible apply af.sY);(case ht|hx|hy=>exact rfl);(case hf=>first|exact mC rfl|exact gu rfl u|exact d_ rfl u v);(case hk=>assumption))
|((with_reducible apply af.mu);(case ht|hy=>exact rfl);(case hf=>exact mC rfl);(case hk=>exact u);(case hq=>exact rfl))
|((with_reducible apply af.mu);(case ht|hy=>exact rfl);(case hf=>exact gu rfl u);(case hk=>exact v);(case hq=>exact rfl))
|((with_reducible apply af.oy);(case ht|hy=>exact rfl);(case hf=>exact d_ rfl u v);(case hk=>exact z))
|((with_reducible apply af.tR);(case hs=>exact fun _=>rfl);(case ht|ha|hy|hb=>exact rfl);(case hx=>exact G);(case hk=>exact z);(case hv=>exact hv);(case hf=>exact leq))
|(exact af.sf (m:=n) (n:=s.a) rfl rfl)
|exact ae))
|fail)
 exact⟨.inl rfl,rfl⟩
def FA{l:aO}{s:jX}{b:Bool}{N:Int}(h:mO l s):Cl aj 48 [.t (.int .i64 (s.i:Int)),.t (.int .i64 (s.k:Int)),.t (.int .i64 (s.r:Int)),.t (.int .i64 s.a),.lp 0 0,.lp 1 0,.lp 2 0] [.box false 36 [.lo 3 []],.box false 4 [.t (.bool b)],.box false 3 [.t (.int .i64 N)],.own false (.arr (aU l))] (.aN []) [.box false 36 [.lo 3 []],.box false 4 [.t (.bool (ig N (l,b) s).2)],.box false 3 [.t (.int .i64 N)],.own false (.arr (aU (cE l s)))]:=by
 obtain⟨x,y,n,hx,hy,hn,_,U⟩:=qZ h;obtain⟨x2,y2,n2,ab,ad,Z,V,_⟩:=qZ ((Q0 h).yD h);have u:(aU l)[s.i]?=some [.arr (bA x)]:=mG hx;have z:(bA x)[s.k]?=some [.arr (aL y)]:=lf hy;have G:(aL y)[s.r]?=some [.int .i64 n]:=bg hn;have ag:s.i <(aU l).length:=aC u;have al:s.k <(bA x).length:=aC z;have an:s.r <(aL y).length:=aC G;have hv:setAt (.arr (aU l)) [s.i,s.k] s.r (.int .i64 (IntKind.i64.wrap (n+s.a)))=.arr (aU (cE l s)):=by rw[U];exact FH hx hy
 have J:fg (.arr (aU l)) [s.i,s.k]=some (.arr (aL y)):=by simp only[fg,u,z]
 have v:(aU (cE l s))[s.i]?=some [.arr (bA x2)]:=mG ab;have D:(bA x2)[s.k]?=some [.arr (aL y2)]:=lf ad;have I:(aL y2)[s.r]?=some [.int .i64 n2]:=bg Z
 have e0:(ig N (l,b) s).2=(b&&(decide (0<=n2)&&decide (n2<=N))):=by
  show(b&&(decide (0<=ky (cE l s) s)&&decide (ky (cE l s) s<=N)))=_
  rw[V]
 rw[e0];clear e0 V;generalize hL:aU (cE l s)=L at v hv⊢;refine Cl.ap rfl Tryz.func48 rfl rfl rfl ?_
 cases b with
 |false=>
  rw[Bool.false_and]
  repeat'(first
|(refine aw ?_)
|((with_reducible apply aa.u0);(case hx=>first
|((with_reducible apply af.sY);(case ht|hx|hy=>exact rfl);(case hf=>first|exact mC rfl|exact gu rfl u|exact d_ rfl u z|exact gu rfl v|exact d_ rfl v D);(case hk=>assumption))
|((with_reducible apply af.mu);(case ht|hy=>exact rfl);(case hf=>exact mC rfl);(case hk=>first|exact u|exact v);(case hq=>exact rfl))
|((with_reducible apply af.mu);(case ht|hy=>exact rfl);(case hf=>first|exact gu rfl u|exact gu rfl v);(case hk=>first|exact z|exact D);(case hq=>exact rfl))
|((with_reducible apply af.oy);(case ht|hy=>exact rfl);(case hf=>first|exact d_ rfl u z|exact d_ rfl v D);(case hk=>first|exact G|exact I))
|((with_reducible apply af.tR);(case hs=>exact fun _=>rfl);(case ht|ha|hy|hb=>exact rfl);(case hx=>exact J);(case hk=>exact G);(case hv=>exact hv);(case hf=>exact leq))
|(exact af.sf (m:=n) (n:=s.a) rfl rfl)
|exact ae))
|fail)
  exact⟨.inl rfl,rfl⟩
 |true=>
  rw[Bool.true_and];by_cases h1:0<=n2
  ·
   by_cases h2:n2<=N
   ·
    rw[decide_eq_true h1,decide_eq_true h2]
    repeat'(first
|((with_reducible apply aa.cj);(case hp=>exact ak))
|(refine aw ?_)
|((with_reducible apply aa.av);(case hW=>exact rfl);(case hx=>first
|((with_reducible apply af.oy);(case ht|hy=>exact rfl);(case hf=>first|exact d_ rfl u z|exact d_ rfl v D);(case hk=>first|exact G|exact I))
|exact ae))
|((with_reducible apply aa.u0);(case hx=>first
|((with_reducible apply af.sY);(case ht|hx|hy=>exact rfl);(case hf=>first|exact mC rfl|exact gu rfl u|exact d_ rfl u z|exact gu rfl v|exact d_ rfl v D);(case hk=>assumption))
|((with_reducible apply af.mu);(case ht|hy=>exact rfl);(case hf=>exact mC rfl);(case hk=>first|exact u|exact v);(case hq=>exact rfl))
|((with_reducible apply af.mu);(case ht|hy=>exact rfl);(case hf=>first|exact gu rfl u|exact gu rfl v);(case hk=>first|exact z|exact D);(case hq=>exact rfl))
|((with_reducible apply af.oy);(case ht|hy=>exact rfl);(case hf=>first|exact d_ rfl u z|exact d_ rfl v D);(case hk=>first|exact G|exact I))
|((with_reducible apply af.tR);(case hs=>exact fun _=>rfl);(case ht|ha|hy|hb=>exact rfl);(case hx=>exact J);(case hk=>exact G);(case hv=>exact hv);(case hf=>exact leq))
|(exact af.sf (m:=n) (n:=s.a) rfl rfl)
|exact ae))
|fail)
    exact⟨.inl rfl,rfl⟩
   ·
    rw[decide_eq_true h1,decide_eq_false h2]
    repeat'(first
|(refine a8 ?_)
|(refine aw ?_)
|((with_reducible apply aa.av);(case hW=>exact rfl);(case hx=>first
|((with_reducible apply af.oy);(case ht|hy=>exact rfl);(case hf=>first|exact d_ rfl u z|exact d_ rfl v D);(case hk=>first|exact G|exact I))
|exact ae))
|((with_reducible apply aa.u0);(case hx=>first
|((with_reducible apply af.sY);(case ht|hx|hy=>exact rfl);(case hf=>first|exact mC rfl|exact gu rfl u|exact d_ rfl u z|exact gu rfl v|exact d_ rfl v D);(case hk=>assumption))
|((with_reducible apply af.mu);(case ht|hy=>exact rfl);(case hf=>exact mC rfl);(case hk=>first|exact u|exact v);(case hq=>exact rfl))
|((with_reducible apply af.mu);(case ht|hy=>exact rfl);(case hf=>first|exact gu rfl u|exact gu rfl v);(case hk=>first|exact z|exact D);(case hq=>exact rfl))
|((with_reducible apply af.oy);(case ht|hy=>exact rfl);(case hf=>first|exact d_ rfl u z|exact d_ rfl v D);(case hk=>first|exact G|exact I))
|((with_reducible apply af.tR);(case hs=>exact fun _=>rfl);(case ht|ha|hy|hb=>exact rfl);(case hx=>exact J);(case hk=>exact G);(case hv=>exact hv);(case hf=>exact leq))
|(exact af.sf (m:=n) (n:=s.a) rfl rfl)
|exact ae))
|fail)
    exact⟨.inl rfl,rfl⟩
  ·
   rw[decide_eq_false h1]
   repeat'(first
|((with_reducible apply aa.c_);(case hp=>exact ak))
|(refine aw ?_)
|((with_reducible apply aa.av);(case hW=>exact rfl);(case hx=>first
|((with_reducible apply af.oy);(case ht|hy=>exact rfl);(case hf=>first|exact d_ rfl u z|exact d_ rfl v D);(case hk=>first|exact G|exact I))
|exact ae))
|((with_reducible apply aa.u0);(case hx=>first
|((with_reducible apply af.sY);(case ht|hx|hy=>exact rfl);(case hf=>first|exact mC rfl|exact gu rfl u|exact d_ rfl u z|exact gu rfl v|exact d_ rfl v D);(case hk=>assumption))
|((with_reducible apply af.mu);(case ht|hy=>exact rfl);(case hf=>exact mC rfl);(case hk=>first|exact u|exact v);(case hq=>exact rfl))
|((with_reducible apply af.mu);(case ht|hy=>exact rfl);(case hf=>first|exact gu rfl u|exact gu rfl v);(case hk=>first|exact z|exact D);(case hq=>exact rfl))
|((with_reducible apply af.oy);(case ht|hy=>exact rfl);(case hf=>first|exact d_ rfl u z|exact d_ rfl v D);(case hk=>first|exact G|exact I))
|((with_reducible apply af.tR);(case hs=>exact fun _=>rfl);(case ht|ha|hy|hb=>exact rfl);(case hx=>exact J);(case hk=>exact G);(case hv=>exact hv);(case hf=>exact leq))
|(exact af.sf (m:=n) (n:=s.a) rfl rfl)
|exact ae))
|fail)
   exact⟨.inl rfl,rfl⟩
def Ax(e:Ev):Cl aj 93 [.t (c6 e)] [] (.t (.bool (gE e))) []:=by
 refine Cl.ap rfl Tryz.func93 rfl rfl rfl ?_;unfold gE
 repeat'(first
|(refine aw ?_)
|((with_reducible apply aa.gd);(case hW=>first|exact JG rfl rfl|exact JF rfl rfl|((with_reducible apply JE);(case h=>exact rfl);(case he=>repeat(first|with_reducible exact Cc _ _ _|(with_reducible refine Ce rfl ?_)|with_reducible refine Cd ?_)))|((with_reducible apply JD);(case h=>exact rfl);(case he=>repeat(first|with_reducible exact Cc _ _ _|(with_reducible refine Ce rfl ?_)|with_reducible refine Cd ?_))));(case hx=>(intro u;(rw[u]);(first
|((with_reducible apply af.yh);(case hy|ho=>exact rfl);(case hn=>(conv=>lhs;whnf);try exact rfl))
|exact af.r fun _=>rfl))))
|((with_reducible apply aa.u0);(case hx=>first
|((with_reducible apply af.mv);(conv=>lhs;whnf);try exact rfl)
|((with_reducible apply af.asg);(conv=>lhs;whnf);try exact rfl)
|((with_reducible apply af.yh);(case hy|ho=>exact rfl);(case hn=>(conv=>lhs;whnf);try exact rfl))
|((with_reducible apply af.BC);(case hs=>exact fun _=>rfl);(case hy=>exact rfl);(case ho=>kernel_rfl);(case hn=>exact Dy);(case hf=>exact leq))
|((with_reducible apply af.and);(case hc|hx|hy=>exact rfl))
|exact af.r fun _=>rfl))
|fail)
 all_goals(refine ba (.inr rfl) rfl ?_;simp)
def iS(z:aO)(e:Ev):Prop:=gE e=true->(0<=e.gi/\0<=e.ge/\0<=e.r/\0<=e.to)/\(1<=e.ga/\e.ga<=1000000)/\∃x y,z[e.gi.toNat]?=some x/\x[e.ge.toNat]?=some y/\e.r <y.length/\e.to <y.length
def iS.ol{z:aO}{e:Ev}(h:iS z e)(ht:gE e=true)(a:Int):mO z ⟨e.gi.toNat,e.ge.toNat,e.r.toNat,a⟩/\mO z ⟨e.gi.toNat,e.ge.toNat,e.to.toNat,a⟩:=by
 obtain⟨_,_,x,y,h1,h2,h3,h4⟩:=h ht;obtain⟨n,v⟩:=am (xs:=y) (k:=e.r.toNat) (by omega);obtain⟨D,u⟩:=am (xs:=y) (k:=e.to.toNat) (by omega);exact⟨⟨x,y,n,h1,h2,v⟩,x,y,D,h1,h2,u⟩
def iS.qs{z J:aO}{e:Ev}(h:iS z e)(ha:eG z J):iS J e:=fun ht=>by
 obtain⟨U,V,x,y,h1,h2,h3,h4⟩:=h ht;refine⟨U,V,?_⟩;obtain⟨n,Z⟩:=am (xs:=y) (k:=e.r.toNat) (by omega);obtain⟨n',G⟩:=am (xs:=y) (k:=e.to.toNat) (by omega);obtain⟨x1,y1,n1,u,a2,a3⟩:=ha.yD (s:=⟨e.gi.toNat,e.ge.toNat,e.r.toNat,0⟩) ⟨x,y,n,h1,h2,Z⟩;obtain⟨x2,y2,n2,v,D,I⟩:=ha.yD (s:=⟨e.gi.toNat,e.ge.toNat,e.to.toNat,0⟩) ⟨x,y,n',h1,h2,G⟩;dsimp only at u a2 a3 v D I;rw[u]at v;cases v;rw[a2]at D;cases D;have c1:=aC a3;have c2:=aC I;exact⟨x1,y1,u,a2,by omega,by omega⟩
def Ol{e:Ev}{z:aO}(h:iS z e):Cl aj 47 [.t (c6 e),.fn (.func 54) 0 [.lp 0 0]] [.box false 36 [.lo 1 []],.own false (.arr (aU z))] (.aN []) [.box false 36 [.lo 1 []],.own false (.arr (aU (cS z e)))]:=by
 have v:=Ax e;have D:=aW e.past;unfold cS ij;obtain⟨b,y⟩:∃b,gE e=b:=⟨_,rfl⟩;rw[y]at v⊢
 cases b with
 |true=>
  rw[if_pos rfl];obtain⟨⟨h1,h2,h3,h4⟩,⟨V,Z⟩,_⟩:=h y;have u:=(h.ol y (0 - e.ga)).1;have I:=F8 u;have G:=(Q0 u);have J:=F8 ((h.qs G).ol y e.ga).2;obtain⟨er,en,et,P,K,ea,gk,gi,ge,ga,U,pl,se⟩:=e;dsimp only at h1 h2 h3 h4 V Z I J D⊢;obtain⟨r,rfl⟩:=Int.eq_ofNat_of_zero_le h3;obtain⟨i,rfl⟩:=Int.eq_ofNat_of_zero_le h1;obtain⟨k,rfl⟩:=Int.eq_ofNat_of_zero_le h2;obtain⟨t,rfl⟩:=Int.eq_ofNat_of_zero_le h4;simp only[Int.toNat_natCast,List.foldl_cons,List.foldl_nil]at I J⊢;unfold c6 cx at v⊢;dsimp only at v⊢;refine Cl.ap rfl Tryz.func47 rfl rfl rfl ?_
  repeat'(first
|(refine aw ?_)
|((with_reducible apply aa.u0);(case hx=>first
|((with_reducible apply af.lK);(case hx=>exact rfl);(case h=>omega))
|(exact ai v)
|(exact lN [0,1] I)
|(exact lN [0,1] J)
|exact ae))
|fail)
  exact⟨.inl rfl,rfl⟩
 |false=>
  rw[if_neg (by decide)];unfold c6 cx at v⊢;refine Cl.ap rfl Tryz.func47 rfl rfl rfl ?_;refine aq ?_;exact⟨.inl rfl,rfl⟩
def Ok{e:Ev}{z:aO}{b0:Bool}{N:Int}(h:iS z e):Cl aj 47 [.t (c6 e),.fn (.func 48) 0 [.lp 0 0,.lp 1 0,.lp 2 0]] [.box false 36 [.lo 3 []],.box false 4 [.t (.bool b0)],.box false 3 [.t (.int .i64 N)],.own false (.arr (aU z))] (.aN []) [.box false 36 [.lo 3 []],.box false 4 [.t (.bool ((ij e).foldl (ig N) (z,b0)).2)],.box false 3 [.t (.int .i64 N)],.own false (.arr (aU ((ij e).foldl cE z)))]:=by
 have y:=Ax e;have I:=aW e.past;unfold ij;obtain⟨b,D⟩:∃b,gE e=b:=⟨_,rfl⟩;rw[D]at y⊢
 cases b with
 |true=>
  rw[if_pos rfl];obtain⟨⟨h1,h2,h3,h4⟩,⟨h5,h6⟩,_⟩:=h D;have u:=(h.ol D (0 - e.ga)).1;have G:=FA (b:=b0) (N:=N) u;have J:=(Q0 u);have v:=FA (b:=(ig N (z,b0) ⟨e.gi.toNat,e.ge.toNat,e.r.toNat,0 - e.ga⟩).2) (N:=N) ((h.qs J).ol D e.ga).2;have V:([⟨e.gi.toNat,e.ge.toNat,e.r.toNat,0 - e.ga⟩,⟨e.gi.toNat,e.ge.toNat,e.to.toNat,e.ga⟩].foldl (ig N) (z,b0)).2=(ig N (cE z ⟨e.gi.toNat,e.ge.toNat,e.r.toNat,0 - e.ga⟩,(ig N (z,b0) ⟨e.gi.toNat,e.ge.toNat,e.r.toNat,0 - e.ga⟩).2) ⟨e.gi.toNat,e.ge.toNat,e.to.toNat,e.ga⟩).2:=rfl;rw[V];obtain⟨er,en,et,P,K,ea,gk,gi,ge,ga,Z,pl,se⟩:=e;dsimp only at h1 h2 h3 h4 h5 h6 G v I⊢;obtain⟨r,rfl⟩:=Int.eq_ofNat_of_zero_le h3;obtain⟨i,rfl⟩:=Int.eq_ofNat_of_zero_le h1;obtain⟨k,rfl⟩:=Int.eq_ofNat_of_zero_le h2;obtain⟨t,rfl⟩:=Int.eq_ofNat_of_zero_le h4;simp only[Int.toNat_natCast,List.foldl_cons,List.foldl_nil]at G v⊢;generalize(ig N (z,b0) _).2=U at G v⊢;generalize(ig N (cE z _,U) _).2=b2 at v⊢;unfold c6 cx at y⊢;dsimp only at y⊢;refine Cl.ap rfl Tryz.func47 rfl rfl rfl ?_
  repeat'(first
|(refine aw ?_)
|((with_reducible apply aa.u0);(case hx=>first
|((with_reducible apply af.lK);(case hx=>exact rfl);(case h=>omega))
|(exact ai y)
|(exact lN [0,1,2,3] G)
|(exact lN [0,1,2,3] v)
|exact ae))
|fail)
  exact⟨.inl rfl,rfl⟩
 |false=>
  rw[if_neg (by decide)];unfold c6 cx at y⊢;refine Cl.ap rfl Tryz.func47 rfl rfl rfl ?_;refine aq ?_;exact⟨.inl rfl,rfl⟩
def Ki{x:List (List Int)}(hx:∀c∈x,c.length<=1000000):(bA x).all sX=true:=by
 unfold bA;rw[List.all_map,List.all_eq_true];intro c u;show((aL c).all vq&&Nat.ble (aL c).length 1000000)=true
 rw[Bool.and_eq_true,Nat.ble_eq,aW];refine⟨?_,hx c u⟩;unfold aL;rw[List.all_map,List.all_eq_true];intro n _;rfl
def Rm(l:aO):Prop:=l.length<=1000000/\∀x∈l,x.length<=1000000/\∀y∈x,y.length<=1000000
def Kj{l:aO}(h:Rm l):((aU l).all vt&&Nat.ble (aU l).length 1000000)=true:=by
 rw[Bool.and_eq_true,Nat.ble_eq,mH];refine⟨?_,h.1⟩;unfold aU;rw[List.all_map,List.all_eq_true];intro x u;show((bA x).all sX&&Nat.ble (bA x).length 1000000)=true
 rw[Bool.and_eq_true,Nat.ble_eq,nV];exact⟨Ki (h.2 x u).2,(h.2 x u).1⟩
def FD{l:aO}(h:Rm l):Cl aj 46 [.t (.arr (aU l))] [] (.lo 0 []) [.own false (.arr (aU l))]:=by
 refine Cl.ext (xs:=[.arr (aU l)]) (by kernel_rfl) rfl ?_
 have h3:sx (aU l)=some (.lo 0 [],[.own false (.arr (aU l))]):=by
  unfold sx;rw[Kj h]
 have u:sJ 46 [.arr (aU l)]=none:=rfl;show qN 46 [.arr (aU l)]=_
 unfold qN;rw[u];exact h3
def FX{m:Md}{p:Pln}(h:PW m p)(n:Int)(e:Ev)(he:e.past.length<=140737488351232):Cl aj 45 [.t (bN m),.t (a_ p),.t (.int .i64 n),.t (c6 e)] [] (.t (.bool (gl m p n e))) []:=by
 have v:=Je h.md n e he;have y:=Ax e;have u:=zw (i:=e.gi) h;have G:=kP p.aA;have I:=h.pl.aA;unfold gl;obtain⟨b,D⟩:∃b,qj m n e=b:=⟨_,rfl⟩;obtain⟨t,J⟩:∃t,gE e=t:=⟨_,rfl⟩;rw[D]at v⊢;rw[J]at y⊢;obtain⟨E,z⟩:∃E,eu m p e.gi=E:=⟨_,rfl⟩;rw[z]at u⊢;unfold a_ at u⊢;rw[bK]at u⊢;rw[aZ]at v u⊢;unfold c6 cx at v y⊢;refine Cl.ap rfl Tryz.func45 rfl rfl rfl ?_
 cases b with
 |false=>
  rw[Bool.false_and];exact ah
 |true=>
  rw[Bool.true_and]
  cases t with
  |false=>
   rw[show(!false ||(decide (e.gi <p.aA.length)&&decide (e.ge <E)))=true from rfl];exact ah
  |true=>
   rw[show(!true ||(decide (e.gi <p.aA.length)&&decide (e.ge <E)))=(decide (e.gi <p.aA.length)&&decide (e.ge <E)) from rfl];by_cases h1:e.gi <p.aA.length
   ·
    by_cases h2:e.ge <E
    ·
     rw[decide_eq_true h1,decide_eq_true h2];exact ah
    ·
     rw[decide_eq_true h1,decide_eq_false h2];exact ah
   ·
    rw[decide_eq_false h1];exact ah
end Go.Proofs.YtcgdbhlnkificaaGreatDoor
