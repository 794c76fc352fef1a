/- Law 39: lists of events turned around. No condition. -/
import Derived.Test.YtcgdbhlnkificaaGreatDoorTKA
import Derived.Test.YtcgdbhlnkificaaGreatDoorTNI
import Derived.Test.YtcgdbhlnkificaaGreatDoorTUI
import Derived.Test.YtcgdbhlnkificaaGreatDoorUK
set_option linter.all false
namespace Go.Proofs.YtcgdbhlnkificaaGreatDoor
open Go.RowKit
set_option maxRecDepth 100000
set_option maxHeartbeats 32000000
def mR(l X:List Ev)(i:Nat):Prop:=X.length=l.length/\∀k,X[k]?=if k <i\/l.length - i<=k then l.reverse[k]? else l[k]?
def mR.start(l:List Ev):mR l l 0:=⟨rfl,fun k=>by
 by_cases h:l.length<=k
 ·rw[if_pos (.inr (by simpa using h)),List.getElem?_eq_none (by simpa using h),List.getElem?_eq_none (by simpa using h)]
 ·rw[if_neg (by omega)]⟩
def mR.done{l X:List Ev}{i:Nat}(h:mR l X i)(hi:l.length<=2*i+1):X=l.reverse:=by
 apply List.ext_getElem?;intro k;rw[h.2 k];split
 ·rfl
 ·rename_i y;have u:i<=k:=by omega
  have v:k <l.length - i:=by omega
  have:k=l.length - 1 - k:=by omega
  rw[List.getElem?_reverse (by omega),<- this]
def mR.step{l X:List Ev}{i:Nat}{a b:Ev}(h:mR l X i)(hi:2*i+1 <l.length)(ha:X[i]?=some a)(hb:X[l.length - 1 - i]?=some b):mR l ((X.set i b).set (l.length - 1 - i) a) (i+1):=by
 refine⟨by simp[h.1],fun k=>?_⟩;have u:=h.2 i;have v:=h.2 (l.length - 1 - i);rw[ha,if_neg (by omega)]at u;rw[hb,if_neg (by omega)]at v;by_cases z:k=l.length - 1 - i
 ·subst z;rw[List.getElem?_set_self (by rw[List.length_set,h.1];omega),if_pos (.inr (by omega)),List.getElem?_reverse (by omega),show l.length - 1 - (l.length - 1 - i)=i by omega,<- u]
 ·rw[List.getElem?_set_ne (fun e=>z e.symm)];by_cases D:k=i
  ·subst D;rw[List.getElem?_set_self (by rw[h.1];omega),if_pos (.inl (by omega)),List.getElem?_reverse (by omega),<- v]
  ·rw[List.getElem?_set_ne (fun e=>D e.symm),h.2 k];by_cases y:k <i\/l.length - i<=k
   ·rw[if_pos y,if_pos (by omega)]
   ·rw[if_neg y];split
    ·rename_i G;omega
    ·rfl
def Cj(X:List Ev)(i:Nat)(e:Ev):(b8 X).set i (cx e)=b8 (X.set i e):=by unfold b8;rw[List.map_set]
def Nr{l:List Ev}(h0:l≠[])(hl:l.length<=1000):Cl aj 25 [.ls 0] [.row false false 13 (b8 l)] (.aN []) [.row false false 13 (b8 l.reverse)]:=by
 have ab:=pn l;have I:0 <l.length:=List.length_pos_iff.2 h0;refine Cl.ap rfl Tryz.func25 rfl rfl rfl ?_;refine aq ?_;refine az.c8 (fun x:Nat×List Ev=>[(2,.t (.int .i64 (x.1:Int))),(3,.t (.int .i64 ((l.length:Int) - 1 - (x.1:Int))))]) (fun x=>[.row false false 13 (b8 x.2)]) (fun x=>mR l x.2 x.1/\2*x.1<=l.length) (fun x=>l.length - x.1) (0,l) (by simp;rfl) rfl ⟨mR.start l,by omega⟩ (fun x hx=>?_);obtain⟨i,X⟩:=x;dsimp only at hx⊢;obtain⟨y,h2⟩:=hx;have ad:=pn X;have z:=y.1;by_cases ag:(i:Int)<(l.length:Int) - 1 - (i:Int)
 ·
  obtain⟨a,ha⟩:=am (xs:=X) (k:=i) (by omega);obtain⟨b,hb⟩:=am (xs:=X) (k:=l.length - 1 - i) (by omega);have D:=y.step (by omega) ha hb;have v:((l.length:Int) - 1 - (i:Int)).toNat=l.length - 1 - i:=by omega
  have J:=uZ ha;have U:=uZ hb;rw[<- v]at U;have t1:=Cj X i b
  have V:(b8 (X.set i b))[((l.length:Int) - 1 - (i:Int)).toNat]?=some [.int .i64 b.r,.int .i64 b.n,.int .i64 b.t,aD b.past,.int .i64 b.k,.int .i64 b.a,.int .i64 b.gk,.int .i64 b.gi,.int .i64 b.ge,.int .i64 b.ga,.int .i64 b.to,.int .i64 b.pl,.int .i64 b.se]:=by
   refine uZ ?_;rw[v,List.getElem?_set_ne (by omega)];exact hb
  have G:=Cj (X.set i b) (((l.length:Int) - 1 - (i:Int)).toNat) a;rw[v]at G;rw[<- v]at G;have Z:(b8 (X.set i b)).length=l.length:=by rw[pn,List.length_set,z]
  repeat'(first
|((with_reducible apply aa.aF);(case hp=>exact ak))
|(refine aw ?_)
|((with_reducible apply ay.u);(case hfl=>kernel_rfl);(case hx=>first
|((with_reducible apply af.Gc);(case hs=>exact fun _=>rfl);(case ht=>first|(with_reducible exact eD)|exact rfl);(case ha|hy=>exact rfl);(case hone=>kernel_rfl);(case hl|hb=>exact rfl);(case hk=>exact J);(case ho=>exact rfl);(case hv=>exact t1);(case hf=>exact leq))
|((with_reducible apply af.Gc);(case hs=>exact fun _=>rfl);(case ht=>first|(with_reducible exact eD)|exact rfl);(case ha|hy=>exact rfl);(case hone=>kernel_rfl);(case hl|hb=>exact rfl);(case hk=>exact V);(case ho=>exact rfl);(case hv=>exact G);(case hf=>exact leq))
|exact ae))
|((with_reducible apply aa.u0);(case hx=>exact ae))
|fail)
  exact⟨(i+1,(X.set i b).set (((l.length:Int) - 1 - (i:Int)).toNat) a),by dsimp only;rw[show((l.length:Int) - 1 - ((i+1:Nat):Int))=(l.length:Int) - 1 - (i:Int) - 1 by omega];rfl,rfl,⟨by rw[v];exact D,by dsimp only;omega⟩,by dsimp only;omega⟩
 ·
  rw[y.done (by omega)];refine aq ?_;exact⟨.inl rfl,rfl⟩
def zc{α:Type}(l:List α)(i:Nat)(f:α->α)(d:α):l.set i (f (l.getD i d))=l.modify i f:=by
 apply List.ext_getElem?;intro j;rw[List.getElem?_modify];by_cases h:i=j
 ·subst h;rcases Nat.lt_or_ge i l.length with u|u
  ·rw[List.getElem?_set_self u,List.getD_eq_getElem?_getD,List.getElem?_eq_getElem u];simp
  ·rw[List.getElem?_eq_none (by simpa using u),List.getElem?_eq_none u];rfl
 ·rw[List.getElem?_set_ne h];cases l[j]? <;>simp[h]
def zb{α:Type}(l:List α)(i j:Nat)(f g:α->α)(h:i=j->∀a,f (g a)=g (f a)):(l.modify i f).modify j g=(l.modify j g).modify i f:=by
 apply List.ext_getElem?;intro k;rw[List.getElem?_modify,List.getElem?_modify,List.getElem?_modify,List.getElem?_modify]
 cases l[k]? with
 |none=>rfl
 |some a=>
  by_cases h1:i=k
  ·by_cases h2:j=k
   ·have:=h (h1.trans h2.symm) a;simp[h1,h2,this]
   ·simp[h1,h2]
  ·by_cases h2:j=k
   ·simp[h1,h2]
   ·simp[h1,h2]
theorem yq{α β:Type}(f:β->α->β)(hc:∀z x y,f (f z x) y=f (f z y) x):∀(l:List α) (z:β) (x:α),l.foldl f (f z x)=f (l.foldl f z) x
 |[],_,_=>rfl
 |y::l,z,x=>by
  show l.foldl f (f (f z x) y)=f (l.foldl f (f z y)) x
  rw[hc z x y,yq f hc l (f z y) x]
theorem foldl_rev{α β:Type}(f:β->α->β)(hc:∀z x y,f (f z x) y=f (f z y) x):∀(l:List α) (z:β),l.reverse.foldl f z=l.foldl f z
 |[],_=>rfl
 |x::l,z=>by
  rw[List.reverse_cons,List.foldl_append,foldl_rev f hc l z];exact(yq f hc l z x).symm
theorem CM{α β:Type}(f:β->α->β)(hc:∀z x y,f (f z x) y=f (f z y) x):∀(k l:List α) (z:β),l.foldl f (k.foldl f z)=k.foldl f (l.foldl f z)
 |[],_,_=>rfl
 |x::k,l,z=>by
  show l.foldl f (k.foldl f (f z x))=k.foldl f (f (l.foldl f z) x)
  rw[CM f hc k l (f z x),yq f hc l z x]
def QC(n a b:Int):IntKind.i64.wrap (IntKind.i64.wrap (n+a)+b)=IntKind.i64.wrap (IntKind.i64.wrap (n+b)+a):=by
 rw[IntKind.wrap_i64,IntKind.wrap_i64,IntKind.wrap_i64,IntKind.wrap_i64];omega
def uv(z:aO)(s:jX):cE z s=z.modify s.i fun x=>x.modify s.k fun y=>y.modify s.r fun n=>IntKind.i64.wrap (n+s.a):=by
 have h1:=zc z s.i (fun x=>x.modify s.k fun y=>y.modify s.r fun n=>IntKind.i64.wrap (n+s.a)) [];rw[<- h1];have h2:=zc (z.getD s.i []) s.k (fun y=>y.modify s.r fun n=>IntKind.i64.wrap (n+s.a)) [];rw[<- h2];have h3:=zc ((z.getD s.i []).getD s.k []) s.r (fun n=>IntKind.i64.wrap (n+s.a)) 0;rw[<- h3];rfl
def G8(z:aO)(s t:jX):cE (cE z s) t=cE (cE z t) s:=by
 rw[uv,uv,uv z t,uv _ s];refine zb z s.i t.i _ _ fun _ x=>zb x t.k s.k _ _ fun _ y=>zb y s.r t.r _ _ fun _ n=>?_;exact QC n t.a s.a
def Pn(z:aO)(x y:Ev):cS (cS z x) y=cS (cS z y) x:=by
 unfold cS;exact CM cE G8 _ _ z
def Pq(m:Md)(p:Pln)(R:Int)(l:aO)(E:List Ev):jd m p R l E.reverse=jd m p R l E:=by
 unfold jd;rw[List.all_reverse,foldl_rev _ Pn]
def He{l z:aO}(h:eG l z)(hl:Rm l):Rm z:=by
 unfold eG at h;have h1:=congrArg List.length h;rw[List.length_map,List.length_map]at h1;refine⟨by have:=hl.1;omega,fun x V=>?_⟩;have I:x.map List.length∈z.map (·.map List.length):=List.mem_map.2 ⟨x,V,rfl⟩;rw[h]at I;obtain⟨J,v,G⟩:=List.mem_map.1 I;have h2:=congrArg List.length G;rw[List.length_map,List.length_map]at h2;refine⟨by have:=(hl.2 J v).1;omega,fun y Z=>?_⟩;have u:y.length∈x.map List.length:=List.mem_map.2 ⟨y,Z,rfl⟩;rw[<- G]at u;obtain⟨y',D,U⟩:=List.mem_map.1 u;have:=(hl.2 J v).2 y' D;omega
def Nq{l:List Ev}(hl:l.length<=1000):Cl aj 25 [.ls 0] [.row false false 13 (b8 l)] (.aN []) [.row false false 13 (b8 l.reverse)]:=by
 by_cases v:l=[]
 ·
  subst v;have u:(b8 []).length=0:=rfl;show Cl aj 25 [.ls 0] [.row false false 13 (b8 [])] (.aN []) [.row false false 13 (b8 [])]
  generalize b8 []=X at u⊢;refine Cl.ap rfl Tryz.func25 rfl rfl rfl ?_
  repeat'(first
|(with_reducible first|apply ac.seq|apply ac.block)
|((with_reducible apply ac.text);(try case hm=>exact rfl))
|(with_reducible apply aa.aB)
|((with_reducible apply aa.u0);(case hx=>exact ae))
|fail)
  apply ac.cR
  case ho=>exact rfl
  case hp=>exact rfl
  case hl=>exact rfl
  case hs=>exact slt
  refine az.ind (fun q:Nat=>[(2,.t (.int .i64 (q:Int))),(3,.t (.int .i64 ((X.length:Int) - 1)))]) (fun q=>q=0) (fun q=>0) 0 rfl rfl (fun q y=>?_);subst y
  repeat'(first
|(with_reducible apply ac.seq)
|((with_reducible apply ac.text);(try case hm=>exact rfl))
|(with_reducible first|apply ac.exit|apply da|apply cY)
|((with_reducible apply ac.aY);(case hc=>exact rfl))
|((with_reducible apply aa.bk);(case hp=>exact ak))
|(with_reducible apply aa.aB)
|((with_reducible apply aa.u0);(case hx=>exact ae))
|fail)
  exact⟨.inl rfl,rfl⟩
 ·exact Nr v hl
def KJ{m:Md}{p:Pln}{R:Int}{l:aO}{E:List Ev}(hm:bx m)(hp:nO p)(hl:l.length<=17592186044416)(hx:∀x∈l,x.length<=17592186044416/\∀y∈x,y.length<=17592186044416)(hE:E.length<=17592186044416)(he:∀e∈E,e.past.length<=17592186044416):Cl aj 6 [.t (bN m),.t (a_ p),.t (.int .i64 R),.t (.arr (aU l)),.t (.arr (b8 E))] [] (.t (.bool true)) []:=by
 have aM:=hm.eff;have k0:=FB;have v:=Cy (p:=p) hm aM hp (l:=[]) (E:=E) (by simp) (fun x h=>by cases h) (by omega) (fun e h=>by have:=he e h;omega);have e1:(.arr (bA []):AV)=.arr []:=rfl;rw[e1]at v;have k4:=CA (l:=l) (by omega) (fun x h=>⟨by have:=(hx x h).1;omega,fun y hy=>by have:=(hx x h).2 y hy;omega⟩);have bH:=pn E;by_cases J:oc m p [] E=true/\po l=true/\E.length<=30
 ·
  obtain⟨ao,aN,bt⟩:=J;rw[ao]at v;rw[aN]at k4;obtain⟨hW,hS⟩:=Cz hm aM hp ao;obtain⟨bi,hf,_,_⟩:=yi ao;have au:=CB aN;have an:∀e∈E,e.past.length<=8:=(CC bi).2.2.2.1;have G:=FJ (R:=R) (l:=l) (E:=E) hW au (by omega) (fun e h=>by have:=an e h;omega);have D:=FJ (R:=R) (l:=l) (E:=E.reverse) hW au (by rw[List.length_reverse];omega) (fun e h=>by have:=an e (List.mem_reverse.1 h);omega);rw[Pq]at D;have kc:=IP (l:=E) (by omega);have kr:=Nq (l:=E) (by omega);by_cases al:(jd m p R l E).2=0
  ·
   obtain⟨hA,hs,aT⟩:=Pp al;have bm:∀e∈E,iS l e:=fun e bf=>(pk (aT e bf) hs).1;have bb:Rm (E.foldl cS l):=He (Ap bm (eG.refl l)) au;have ks:=rL bb;have ad:jd m p R l E=(E.foldl cS l,0):=by rw[<- hA,<- al]
   rw[ad]at G D;dsimp only at G D;have u:=fun(z:aO) (e:Ev) (hz:Rm z) (hm:e∈E)=>Ae (l:=z) (e:=e) hW (by omega) hz (by have:=an e hm;omega);unfold a_ at v G D u⊢;rw[bK]at v G D u⊢;rw[aZ]at v G D u⊢;refine Cl.ap rfl Tryz.func6 rfl rfl rfl ?_
   repeat'(first
|(with_reducible first|apply ac.seq|apply ac.block)
|((with_reducible apply ac.text);(try case hm=>exact rfl))
|(with_reducible first|apply ac.skip|apply aH)
|((with_reducible apply ac.aY);(case hc=>exact rfl))
|((with_reducible apply aa.dK);(case hp=>exact ak))
|((with_reducible apply aa.c_);(case hp=>exact ak))
|(with_reducible apply aa.aB)
|((with_reducible apply aa.av);(case hW=>exact rfl);(case hx=>first
|(exact ai k4)
|(exact ai ks)
|exact ae))
|((with_reducible apply aa.u0);(case hx=>first
|((with_reducible apply af.BH);(case hcal|hav|hx|hh|hm=>exact rfl);(case hcl=>exact D);(case hd|hf'|hn=>exact rfl);(case hf=>exact leq))
|(exact ai k0)
|(exact ai v)
|(exact di G)
|(exact iG kc)
|(exact lN [2] kr)
|exact ae))
|fail)
   apply ac.cR
   case ho=>exact rfl
   case hp=>exact rfl
   case hl=>exact rfl
   case hs=>exact slt
   refine az.ind (fun x:aO×Nat=>[(16,.t (.arr (aU x.1))),(77,.t (.int .i64 (x.2:Int)))]) (fun x=>x.2<=E.length/\x.1=(E.take x.2).foldl cS l/\cT m p R x.1=true) (fun x=>E.length - x.2) (l,0) rfl ⟨Nat.zero_le _,rfl,hs⟩ (fun x hq=>?_);obtain⟨z,q⟩:=x;dsimp only at hq⊢;obtain⟨h1,h2,U⟩:=hq;rcases Nat.lt_or_ge q E.length with h3|h3
   ·
    obtain⟨e,aA⟩:=am h3;have Z:=List.mem_of_getElem? aA;have hc:(b8 E)[q]?=some (cx e):=by unfold b8;rw[List.getElem?_map,aA];rfl
    have a6:Rm z:=Gj U;have u:=u z e a6 Z;have bo:=rL a6;have ax:cS z e=(E.take (q+1)).foldl cS l:=by rw[List.take_add_one,List.foldl_append,<- h2,aA];rfl
    have a1:=aT e Z;have aG:=(pk a1 U).2.1;have V:=a1;have ab:=U;rw[aG]at V ab;by_cases hg:(gM m p z e).2=0
    ·
     obtain⟨hB,_,_,_,I⟩:=Og hg;rw[<- aG]at I;have ag:gM m p z e=(cS z e,0):=by rw[<- hB,<- hg]
     rw[ag]at u;dsimp only at u;by_cases bj:e.k=1
     ·
      rw[ax]at u I;unfold c6 cx at u;unfold cx at hc
      repeat'(first
|(with_reducible first|apply ac.seq|apply ac.block)
|((with_reducible apply ac.text);(try case hm=>exact rfl))
|(with_reducible first|apply ac.skip|apply aH)
|((with_reducible apply ac.aR);(case hc=>exact rfl))
|((with_reducible apply ac.aY);(case hc=>exact rfl))
|((with_reducible apply aa.aF);(case hp=>exact ak))
|((with_reducible apply aa.dK);(case hp=>exact ak))
|(with_reducible first|apply aa.aB|apply aa.dF)
|((with_reducible apply aa.gf);(case hW=>exact rfl))
|((with_reducible apply aa.u0);(case hx=>first
|(exact di u)
|exact ae))
|fail)
      exact⟨((E.take (q+1)).foldl cS l,q+1),rfl,rfl,⟨by dsimp only;omega,rfl,I⟩,by dsimp only;omega⟩
     ·
      have bl:gE e=false:=by unfold gE;rw[decide_eq_false bj];rfl
      rw[F7 bl]at u I ax;unfold c6 cx at u;unfold cx at hc
      repeat'(first
|(with_reducible first|apply ac.seq|apply ac.block)
|((with_reducible apply ac.text);(try case hm=>exact rfl))
|(with_reducible first|apply ac.skip|apply aH)
|((with_reducible apply ac.aR);(case hc=>exact rfl))
|((with_reducible apply ac.aY);(case hc=>exact rfl))
|((with_reducible apply aa.aF);(case hp=>exact ak))
|((with_reducible apply aa.fS);(case hp=>exact ak))
|((with_reducible apply aa.dK);(case hp=>exact ak))
|(with_reducible first|apply aa.aB|apply aa.dF)
|((with_reducible apply aa.av);(case hW=>exact rfl);(case hx=>first
|(exact ai bo)
|exact ae))
|((with_reducible apply aa.u0);(case hx=>first
|(exact di u)
|exact ae))
|fail)
      exact⟨(z,q+1),rfl,rfl,⟨by dsimp only;omega,ax,I⟩,by dsimp only;omega⟩
    ·
     have h9:=Od (lU.1 U).1 V ab hg;have hB:=Oe hg;have ag:gM m p z e=([],9):=by rw[<- hB,<- h9]
     rw[ag]at u;dsimp only at u;have e2:(.arr (aU []):AV)=.arr []:=rfl;rw[e2]at u;unfold c6 cx at u;unfold cx at hc
     repeat'(first
|(with_reducible first|apply ac.seq|apply ac.block)
|((with_reducible apply ac.text);(try case hm=>exact rfl))
|(with_reducible first|apply ac.skip|apply ac.ret|apply aH|apply bL|apply eV)
|((with_reducible apply ac.aR);(case hc=>exact rfl))
|((with_reducible apply aa.aF);(case hp=>exact ak))
|((with_reducible apply aa.aX)<;>intro hq)
|((with_reducible apply aa.fS);(case hp=>exact ak))
|((with_reducible apply aa.cj);(case hp=>exact ak))
|(with_reducible apply aa.aB)
|((with_reducible apply aa.gf);(case hW=>exact rfl))
|((with_reducible apply aa.av);(case hW=>exact rfl);(case hx=>exact ae))
|((with_reducible apply aa.u0);(case hx=>first
|(exact di u)
|exact ae))
|fail)
     all_goals first|(exfalso;exact hq rfl)|(exfalso;rename_i hh;exact hh rfl)|exact⟨.inr rfl,rfl⟩
   ·
    rw[List.take_of_length_le h3]at h2;rw[<- h2]at ks;rw[<- h2]
    repeat'(first
|(with_reducible apply ac.seq)
|((with_reducible apply ac.text);(try case hm=>exact rfl))
|(with_reducible first|apply ac.exit|apply ac.ret|apply aH|apply da|apply cY)
|((with_reducible apply ac.aY);(case hc=>exact rfl))
|((with_reducible apply aa.bk);(case hp=>exact ak))
|(with_reducible apply aa.aB)
|((with_reducible apply aa.u0);(case hx=>first
|(exact ai ks)
|exact ae))
|fail)
    exact⟨.inr rfl,rfl⟩
  ·
   have ad:=Po al;rw[ad]at G D;dsimp only at G D;have e2:(.arr (aU []):AV)=.arr []:=rfl;have ks:=rL (A:=[]) ⟨by simp,fun x h=>by cases h⟩;rw[e2]at G D ks;unfold a_ at v G D⊢;rw[bK]at v G D⊢;rw[aZ]at v G D⊢;refine Cl.ap rfl Tryz.func6 rfl rfl rfl ?_
   repeat'(first
|(with_reducible apply ac.seq)
|((with_reducible apply ac.text);(try case hm=>exact rfl))
|(with_reducible first|apply ac.skip|apply ac.ret|apply aH|apply bL)
|((with_reducible apply ac.aR);(case hc=>exact rfl))
|((with_reducible apply ac.aY);(case hc=>exact rfl))
|((with_reducible apply aa.aX)<;>intro hq)
|((with_reducible apply aa.fS);(case hp=>exact ak))
|((with_reducible apply aa.dK);(case hp=>exact ak))
|((with_reducible apply aa.c_);(case hp=>exact ak))
|(with_reducible apply aa.aB)
|((with_reducible apply aa.av);(case hW=>exact rfl);(case hx=>first
|(exact ai k4)
|(exact ai ks)
|exact ae))
|((with_reducible apply aa.u0);(case hx=>first
|((with_reducible apply af.BH);(case hcal|hav|hx|hh|hm=>exact rfl);(case hcl=>exact D);(case hd|hf'|hn=>exact rfl);(case hf=>exact leq))
|(exact ai k0)
|(exact ai v)
|(exact di G)
|(exact iG kc)
|(exact lN [2] kr)
|exact ae))
|fail)
   all_goals first|(exfalso;exact hq rfl)|(exfalso;rename_i hh;exact hh rfl)|exact⟨.inr rfl,rfl⟩
 ·
  obtain⟨b1,bd⟩:∃b,oc m p [] E=b:=⟨_,rfl⟩;obtain⟨b2,be⟩:∃b,po l=b:=⟨_,rfl⟩;rw[bd]at v J;rw[be]at k4 J;unfold a_ at v⊢;rw[bK]at v⊢;rw[aZ]at v⊢;refine Cl.ap rfl Tryz.func6 rfl rfl rfl ?_
  cases b1 with
  |false=>
   repeat'(first
|(with_reducible apply ac.seq)
|((with_reducible apply ac.text);(try case hm=>exact rfl))
|(with_reducible first|apply ac.skip|apply ac.ret|apply aH|apply bL)
|((with_reducible apply ac.aR);(case hc=>exact rfl))
|((with_reducible apply ac.aY);(case hc=>exact rfl))
|(with_reducible apply aa.aB)
|((with_reducible apply aa.gf);(case hW=>exact rfl))
|((with_reducible apply aa.u0);(case hx=>first
|(exact ai k0)
|(exact ai v)
|exact ae))
|fail)
   exact⟨.inr rfl,rfl⟩
  |true=>
   cases b2 with
   |false=>
    repeat'(first
|(with_reducible apply ac.seq)
|((with_reducible apply ac.text);(try case hm=>exact rfl))
|(with_reducible first|apply ac.skip|apply ac.ret|apply aH|apply bL)
|((with_reducible apply ac.aR);(case hc=>exact rfl))
|((with_reducible apply ac.aY);(case hc=>exact rfl))
|(with_reducible apply aa.aB)
|((with_reducible apply aa.gf);(case hW=>exact rfl))
|((with_reducible apply aa.av);(case hW=>exact rfl);(case hx=>first
|(exact ai k4)
|exact ae))
|((with_reducible apply aa.u0);(case hx=>first
|(exact ai k0)
|(exact ai v)
|exact ae))
|fail)
    exact⟨.inr rfl,rfl⟩
   |true=>
    have bu:30 <E.length:=by
     rcases Nat.lt_or_ge 30 E.length with h|h
     ·exact h
     ·exact absurd ⟨rfl,rfl,h⟩ J
    repeat'(first
|(with_reducible apply ac.seq)
|((with_reducible apply ac.text);(try case hm=>exact rfl))
|(with_reducible first|apply ac.skip|apply ac.ret|apply aH|apply bL)
|((with_reducible apply ac.aR);(case hc=>exact rfl))
|((with_reducible apply ac.aY);(case hc=>exact rfl))
|((with_reducible apply aa.cj);(case hp=>exact ak))
|(with_reducible apply aa.aB)
|((with_reducible apply aa.av);(case hW=>exact rfl);(case hx=>first
|(exact ai k4)
|exact ae))
|((with_reducible apply aa.u0);(case hx=>first
|(exact ai k0)
|(exact ai v)
|exact ae))
|fail)
    exact⟨.inr rfl,rfl⟩
end Go.Proofs.YtcgdbhlnkificaaGreatDoor
