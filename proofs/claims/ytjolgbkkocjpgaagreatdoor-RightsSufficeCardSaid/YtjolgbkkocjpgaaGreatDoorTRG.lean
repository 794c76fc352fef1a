/- Law 39: rights. No condition. -/
import Derived.Test.YtjolgbkkocjpgaaGreatDoorTRE
set_option linter.all false
namespace Go.Proofs.YtjolgbkkocjpgaaGreatDoor
open Go.RowKit
set_option maxRecDepth 100000
set_option maxHeartbeats 32000000
def FB{l:List (List Int)}(hl:l.length<=1000000)(hx:∀x∈l,x.length<=1000000):Cl ah 40 [.t (.arr (aF l))] [] (.lo 0 []) [.own false (.arr (aF l))]:=by
 refine Cl.ext (xs:=[.arr (aF l)]) (by kernel_rfl) rfl ?_
 have h1:(aF l).all rH=true:=by
  unfold aF;rw[List.all_map,List.all_eq_true];intro x v;show((aE x).all tF&&Nat.ble (aE x).length 1000000)=true
  rw[Bool.and_eq_true,Nat.ble_eq,aO];refine⟨?_,hx x v⟩;unfold aE;rw[List.all_map,List.all_eq_true];intro n _;rfl
 have h2:Nat.ble (aF l).length 1000000=true:=by rw[ic,Nat.ble_eq];exact hl
 have h3:sZ (aF l)=some (.lo 0 [],[.own false (.arr (aF l))]):=by
  unfold sZ;rw[h1,h2];rfl
 have u:pY 40 [.arr (aF l)]=none:=rfl;show mG 40 [.arr (aF l)]=_
 unfold mG;rw[u];exact h3
def sj{p:Pln}{R:Nat}{l:List (List Int)}(h:eI p R l=true):bM p.ao.length R l/\1<=R/\R<=5:=by
 unfold eI at h;simp only[Bool.and_eq_true,decide_eq_true_eq,List.all_eq_true]at h;exact⟨⟨h.2.1,fun x u=>by have:=(h.2.2 x u).1;omega⟩,by omega,by omega⟩
def vK{m:Md}{p:Pln}{e:Ev}(h:PW m p)(hf:p.ao.length<=1000)(hv:cX m p=true){n:Int}(hk:fC m p n e=true):lh m p e/\n=e.past.length:=by
 unfold fC fu at hk;simp only[Bool.and_eq_true,Bool.or_eq_true,Bool.not_eq_true',decide_eq_true_eq,decide_eq_false_iff_not]at hk;obtain⟨⟨v,V,z⟩,D⟩:=hk
 have G:jh e=true:=by
  unfold cW at v;rw[Bool.and_eq_true]at v;exact v.1
 have u:=v;unfold cW at u;unfold jh gK cO at G;simp only[Bool.and_eq_true,decide_eq_true_eq]at G
 have U:1<=e.past.length/\e.past.length<=5:=by
  have h1:=G.1;omega
 refine⟨⟨h,U,by omega,fun J=>?_,fun y=>?_,hf⟩,by omega⟩
 ·rw[kI];rw[if_pos J]at u;simp only[Bool.and_eq_true,oc,cO,decide_eq_true_eq]at u;refine⟨hv,⟨by omega,?_⟩,by omega,by omega⟩;rcases z with z|z
  ·exact absurd J z
  ·exact z
 ·have I:e.k=1/\e.gk=0:=by
   unfold fq at y;simpa using y
  rw[if_neg (by omega),if_pos I.1]at u;simp only[Bool.and_eq_true,rv,cO,decide_eq_true_eq]at u;rcases D with D|D
  ·rw[y]at D;cases D
  ·omega
def gv(m:Md)(p:Pln)(l:List (List Int))(e:Ev):List (List Int)×Int:=if cX m p=true/\fC m p e.past.length e=true/\eI p e.past.length l=true then
  (if((du m p e).foldl bL (l,0)).2=0 then(((du m p e).foldl bL (l,0)).1,0)else([],((du m p e).foldl bL (l,0)).2))else([],1)
def Fz{m:Md}{p:Pln}{l:List (List Int)}{e:Ev}(h:PW m p)(hf:p.ao.length<=1000)(hl:l.length<=1000000)(hx:∀x∈l,x.length<=1000000)(he:e.past.length<=1000000):Cl ah 17 [.t (bk m),.t (aN p),.t (.arr (aF l)),.t (bN e)] [] (.t (.aJ [.arr (aF (gv m p l e).1),.int .i64 (gv m p l e).2])) []:=by
 have y:=h.v;have u:=DU (p:=p) h.md (e.past.length:Int) e (by omega) (by omega);have D:=AO (p:=p) (e.past.length:Int) (l:=l) (by omega) (by omega) (fun x hm=>by have:=hx x hm;omega);have kc:=FB hl hx;have ab:=aO e.past;unfold gv
 cases Z:cX m p with
 |false=>
  rw[Z]at y;rw[if_neg (by simp)];unfold aN at y u D⊢;unfold bN b8 at u⊢;rw[aS]at y u⊢;rw[bt]at y u D⊢;refine Cl.cL rfl Tryz.func17 rfl rfl rfl ?_;exact ae
 |true=>
  rw[Z]at y
  cases I:fC m p (e.past.length:Int) e with
  |false=>
   rw[I]at u;rw[if_neg (by simp)];unfold aN at y u D⊢;unfold bN b8 at u⊢;rw[aS]at y u⊢;rw[bt]at y u D⊢;refine Cl.cL rfl Tryz.func17 rfl rfl rfl ?_;exact ae
  |true=>
   rw[I]at u
   cases U:eI p (e.past.length:Int) l with
   |false=>
    rw[U]at D;rw[if_neg (by simp)];unfold aN at y u D⊢;unfold bN b8 at u⊢;rw[aS]at y u⊢;rw[bt]at y u D⊢;refine Cl.cL rfl Tryz.func17 rfl rfl rfl ?_;exact ae
   |true=>
    rw[U]at D;rw[if_pos ⟨rfl,rfl,rfl⟩];obtain⟨J,_⟩:=vK h hf Z I;obtain⟨V,_⟩:=sj U;have G:=IZ (z0:=(l,0)) J V;obtain⟨z,hz⟩:∃z,(du m p e).foldl bL (l,0)=z:=⟨_,rfl⟩;rw[hz]at G⊢;obtain⟨L,c⟩:=z;dsimp only at G⊢;unfold aN at y u D G⊢;unfold bN b8 at u G⊢;rw[aS]at y u G⊢;rw[bt]at y u D G⊢;refine Cl.cL rfl Tryz.func17 rfl rfl rfl ?_;by_cases hc:c=0
    ·
     subst hc;rw[if_pos rfl]
     repeat'(first
|((with_reducible apply aa.l4);(case hp=>exact aA))
|(refine ar ?_)
|((with_reducible apply aa.aB);(case hW=>exact rfl);(case hx=>first
|(exact ap u)
|(exact ap D)
|exact af))
|((with_reducible apply aa.u0);(case hx=>first
|(exact ap y)
|(exact lS kc)
|(exact kZ [4,5,3] G)
|exact af))
|fail)
     exact⟨.inr rfl,rfl⟩
    ·
     rw[if_neg hc]
     repeat'(first
|((with_reducible apply aa.la);(case hp=>exact aA))
|(refine ar ?_)
|((with_reducible apply aa.aB);(case hW=>exact rfl);(case hx=>first
|(exact ap u)
|(exact ap D)
|exact af))
|((with_reducible apply aa.u0);(case hx=>first
|(exact ap y)
|(exact lS kc)
|(exact kZ [4,5,3] G)
|exact af))
|fail)
     exact⟨.inr rfl,rfl⟩
def HX(z:List (List Int))(s:cz):(aP z s).map List.length=z.map List.length:=by
 unfold aP;rw[List.map_set,List.length_set];apply List.ext_getElem?;intro k;by_cases u:s.i=k
 ·subst u;rcases Nat.lt_or_ge s.i z.length with h|h
  ·rw[List.getElem?_set_self (by simpa using h),List.getElem?_map,List.getD_eq_getElem?_getD,List.getElem?_eq_getElem h];rfl
  ·rw[List.getElem?_eq_none (by simpa using h),List.getElem?_eq_none (by simpa using h)]
 ·rw[List.getElem?_set_ne u]
theorem BS:∀(S:List cz) (z:List (List Int)),(S.foldl aP z).map List.length=z.map List.length
 |[],_=>rfl
 |s::S,z=>(BS S (aP z s)).trans (HX z s)
theorem xr:∀(S:List cz) (z:List (List Int)×Int),(S.foldl bL z).1=S.foldl aP z.1
 |[],_=>rfl
 |s::S,z=>xr S (bL z s)
def GB{N R:Nat}{l z:List (List Int)}(h:z.map List.length=l.map List.length)(hl:bM N R l):bM N R z:=by
 have u:z.length=l.length:=by have:=congrArg List.length h;simpa using this
 refine⟨u.trans hl.1,fun x D=>?_⟩;have:x.length∈z.map List.length:=List.mem_map.2 ⟨x,D,rfl⟩;rw[h]at this;obtain⟨y,G,v⟩:=List.mem_map.1 this;rw[<- v];exact hl.2 y G
def kW(l:List (List Int))(e:Ev):Int:=match l with
 |[]=>e.past.length
 |x::_=>x.length
def jP(m:Md)(p:Pln)(z:List (List Int))(e:Ev):List (List Int):=(du m p e).foldl aP z
def lP(m:Md)(p:Pln)(l:List (List Int))(E:List Ev):List (List Int)×Int:=if cX m p=true/\eI p (eM l) l=true/\(E.all fun e=>fC m p (kW l e) e)=true then(E.foldl (jP m p) l,0)else([],1)
def Nv(m:Md)(p:Pln)(z:List (List Int))(e:Ev):(jP m p z e).map List.length=z.map List.length:=BS _ _
theorem ud(m:Md)(p:Pln):∀(E:List Ev) (z:List (List Int)),(E.foldl (jP m p) z).map List.length=z.map List.length
 |[],_=>rfl
 |e::E,z=>(ud m p E (jP m p z e)).trans (Nv m p z e)
def EX{p:Pln}{l:List (List Int)}{e:Ev}(hr:eI p (eM l) l=true)(hn:kW l e=e.past.length):bM p.ao.length e.past.length l:=by
 cases l with
 |nil=>
  unfold eI at hr;simp only[Bool.and_eq_true,decide_eq_true_eq]at hr;exact⟨hr.2.1,fun x u=>by cases u⟩
 |cons x l=>
  have h:=(sj (R:=x.length) hr).1;have:x.length=e.past.length:=by have hn:(x.length:Int)=e.past.length:=hn;omega
  rw[<- this];exact h
def OS{m:Md}{p:Pln}{l:List (List Int)}{E:List Ev}(h:PW m p)(hf:p.ao.length<=1000)(hl:l.length<=1000000)(hx:∀x∈l,x.length<=1000000)(hE:E.length<=1000000)(he:∀e∈E,e.past.length<=1000000):Cl ah 20 [.t (bk m),.t (aN p),.t (.arr (aF l)),.t (.arr (cC E))] [] (.t (.aJ [.arr (aF (lP m p l E).1),.int .i64 (lP m p l E).2])) []:=by
 have y:=h.v;have V:=AO (p:=p) (eM l) (l:=l) (by omega) (by omega) (fun x hm=>by have:=hx x hm;omega);have kn:=CI (l:=l) (by omega);have kc:=FB hl hx;have aV:=oE E;have aB:=ic l;unfold lP;have G:=fun(n:Int) (e:Ev) (hm:e∈E)=>DU (p:=p) h.md n e (by have:=he e hm;omega) (by omega);have D:=fun(z:List (List Int)) (e:Ev) (ho:lh m p e) (hs:bM p.ao.length e.past.length z)=>I1 (z0:=z) ho hs
 cases hv:cX m p with
 |false=>
  rw[hv]at y;rw[if_neg (by simp)];unfold aN at y V⊢;rw[aS]at y⊢;rw[bt]at y V⊢;refine Cl.cL rfl Tryz.func20 rfl rfl rfl ?_;exact ae
 |true=>
  rw[hv]at y
  cases hr:eI p (eM l) l with
  |false=>
   rw[hr]at V;rw[if_neg (by simp)];unfold aN at y V⊢;rw[aS]at y⊢;rw[bt]at y V⊢;refine Cl.cL rfl Tryz.func20 rfl rfl rfl ?_;exact ae
  |true=>
   rw[hr]at V;obtain⟨T,hT⟩:∃T,(E.all fun e=>fC m p (kW l e) e)=T:=⟨_,rfl⟩;rw[hT];unfold aN at y V G D⊢;rw[aS]at y G D⊢;rw[bt]at y V G D⊢;refine Cl.cL rfl Tryz.func20 rfl rfl rfl ?_;refine ak ?_;refine ax.cA (fun x:Nat×List (List Int)=>[(30,.t (.int .i64 (x.1:Int)))]) (fun x=>[.box false 30 (([ay m.ai,.arr (bq m.tables),.arr (bX m.bx),.arr (dc m.cons),.arr (dk m.ops),.arr (cK m.au),.arr (cu m.aG)]:List AV).map .t),.box false 35 (([.arr (eA p.ao),.arr (dO p.aD),.arr (cw p.places),ay p.bh]:List AV).map .t),.own false (.arr (aF x.2)),.box false 38 [.lo 2 []]]) (fun x=>x.1<=E.length/\x.2=(E.take x.1).foldl (jP m p) l/\((E.take x.1).all fun e=>fC m p (kW l e) e)=true) (fun x=>E.length - x.1) (0,l) rfl rfl ⟨by dsimp only;omega,rfl,rfl⟩ (fun x hq=>?_);obtain⟨q,z⟩:=x;dsimp only at hq⊢;obtain⟨h1,h2,h3⟩:=hq;rcases Nat.lt_or_ge q E.length with h4|h4
   ·
    obtain⟨e,J⟩:=aj h4;have hm:=List.mem_of_getElem? J;have hc:(cC E)[q]?=some (b8 e):=by unfold cC;rw[List.getElem?_map,J];rfl
    have aX:=aO e.past;have av:z.map List.length=l.map List.length:=by rw[h2];exact ud m p _ l
    obtain⟨n,hn⟩:∃n,kW l e=n:=⟨_,rfl⟩;obtain⟨b,hb⟩:∃b,fC m p n e=b:=⟨_,rfl⟩;have G:=G n e hm;rw[hb]at G
    have U:((E.take (q+1)).all fun e=>fC m p (kW l e) e)=b:=by
     rw[List.take_add_one,List.all_append,h3,J,Bool.true_and];show(fC m p (kW l e) e&&true)=b
     rw[hn,hb,Bool.and_true]
    have I:(l=[]->n=e.past.length)/\(l≠[]->n=eM l):=by
     cases l with
     |nil=>exact⟨fun _=>hn.symm,fun h=>absurd rfl h⟩
     |cons x l=>exact⟨fun h=>(List.cons_ne_nil _ _ h).elim,fun _=>hn.symm⟩
    cases b with
    |false=>
     have ad:T=false:=by
      rw[<- hT,<- Bool.not_eq_true];intro hA;have:=List.all_eq_true.1 hA e hm;rw[hn,hb]at this;cases this
     subst ad;rw[if_neg (by simp)];unfold bN b8 at G;unfold b8 at hc;by_cases u:l=[]
     ·
      have Z:l.length=0:=by rw[u];rfl
      obtain rfl:=I.1 u;exact ae
     ·
      have Z:¬(l.length:Int)=0:=by have:=List.length_pos_iff.2 u;omega
      obtain rfl:=I.2 u;exact ae
    |true=>
     obtain⟨an,al⟩:=vK h hf hv (n:=n) hb;have D:=D z e an (GB av (EX hr (hn.trans al)));have aq:(du m p e).foldl aP z=(E.take (q+1)).foldl (jP m p) l:=by rw[List.take_add_one,List.foldl_append,<- h2,J];rfl
     rw[aq]at D;obtain⟨z',ab⟩:∃z',(E.take (q+1)).foldl (jP m p) l=z':=⟨_,rfl⟩;rw[ab]at D;unfold bN b8 at G D;unfold b8 at hc;by_cases u:l=[]
     ·
      have Z:l.length=0:=by rw[u];rfl
      obtain rfl:=I.1 u
      repeat'(first
|((with_reducible apply aa.aR);(case hp=>exact aA))
|(refine ar ?_)
|((with_reducible apply aa.u0);(case hx=>first
|(exact ap kn)
|(exact ap G)
|(exact kZ [3,2] D)
|exact af))
|fail)
      exact⟨(q+1,z'),rfl,rfl,⟨by dsimp only;omega,ab.symm,U⟩,by dsimp only;omega⟩
     ·
      have Z:¬(l.length:Int)=0:=by have:=List.length_pos_iff.2 u;omega
      obtain rfl:=I.2 u
      repeat'(first
|(refine aY ?_)
|(refine ar ?_)
|((with_reducible apply aa.u0);(case hx=>first
|(exact ap kn)
|(exact ap G)
|(exact kZ [3,2] D)
|exact af))
|fail)
      exact⟨(q+1,z'),rfl,rfl,⟨by dsimp only;omega,ab.symm,U⟩,by dsimp only;omega⟩
   ·
    rw[List.take_of_length_le h4]at h2 h3;have ag:T=true:=by rw[<- hT,h3]
    subst ag;rw[if_pos ⟨rfl,rfl,rfl⟩,<- h2];exact ae
def rN(l:List (List Int))(s:cz):List bE:=if s.a <0/\bZ l s+s.a <0 then[⟨0,(s.i:Int),0,0 - s.a - bZ l s⟩]else[]
def fX(l:List (List Int))(S:List cz):List bE:=S.flatMap (rN l)
def rO(l:List (List Int))(S T:List cz):fX l (S++T)=fX l S++fX l T:=by unfold fX;rw[List.flatMap_append]
def wx(l:List (List Int))(s:cz):fX l [s]=if s.a <0/\bZ l s+s.a <0 then[⟨0,(s.i:Int),0,0 - s.a - bZ l s⟩]else[]:=by unfold fX;simp[rN]
def M0(l:List (List Int))(s:cz):(rN l s).length<=1:=by unfold rN;split <;>simp
theorem t_(l:List (List Int)):∀S:List cz,(fX l S).length<=S.length
 |[]=>Nat.zero_le _
 |s::S=>by
  have h1:=M0 l s;have h2:=t_ l S;unfold fX at h2⊢;rw[List.flatMap_cons,List.length_append,List.length_cons];omega
def Bf(r:Nat)(sg:Int)(A:List bE):(bn r sg A).length<=A.length:=by unfold bn;rw[List.length_map];exact List.length_filter_le _ _
def Ex{N R:Nat}{l:List (List Int)}{s:cz}{x:List Int}{n:Int}{X:List bE}(h:bM N R l)(hs:bW N R s)(hx:l[s.i]?=some x)(hn:x[s.r]?=some n)(U:0<=n/\n<=1000000000000)(ha : -1000000000000000<=s.a/\s.a<=1000000000000000)(v:s.a <0/\n+s.a <0)(I:X.length<=4000):Cl ah 38 [.t (.int .i64 (s.i:Int)),.t (.int .i64 (s.r:Int)),.t (.int .i64 s.a),.lp 0 0,.lp 1 0] [.box false 38 [.t (fx l)],.box false 49 [.ls 2],.row false false 4 (ba X)] (.aJ []) [.box false 38 [.t (fx l)],.box false 49 [.ls 2],.row false true 4 (ba (X++[⟨0,(s.i:Int),0,0 - s.a - n⟩]))]:=by
 obtain⟨i,r,a⟩:=s;dsimp only at hx hn ha v⊢;have y:(aF l)[i]?=some [.arr (aE x)]:=iG hx;have D:(aE x)[r]?=some [.int .i64 n]:=aW hn;have J:i <(aF l).length:=aC y;have V:r <(aE x).length:=aC D;have G:ba X++[[.int .i64 0,.int .i64 (i:Int),.int .i64 0,.int .i64 (0 - a - n)]]=ba (X++[⟨0,(i:Int),0,0 - a - n⟩]):=(mR X [⟨0,(i:Int),0,0 - a - n⟩]);have z:b6 ((ba X).length+1) 32=true:=by rw[fY];exact oO (by omega)
 unfold fx;refine Cl.aq rfl Tryz.func38 rfl rfl rfl ?_
 repeat'(first
|(with_reducible apply am.seq)
|((with_reducible apply am.text);(try case hm=>exact rfl))
|((with_reducible apply am.ew);(case hc=>exact rfl))
|((with_reducible apply aa.aR);(case hp=>exact aA))
|((with_reducible apply aa.ee);(case hp=>exact aA))
|(with_reducible first|apply aa.cI|apply aa.nil)
|((with_reducible apply aa.u);(case hx=>((with_reducible apply ac.da);(case hs=>exact fun _=>rfl);(case ha|ht=>exact rfl);(case hr=>first|(with_reducible exact c7)|(with_reducible exact rw1)|(with_reducible exact c8)|(with_reducible exact rw3)|(with_reducible exact rw4)|exact rfl);(case hx|hy|hn|hb|hok=>exact rfl);(case hlen=>exact z);(case hv=>exact G);(case hk=>exact de);(case hf=>exact leq))))
|((with_reducible apply aa.aB);(case hW=>exact rfl);(case hx=>exact af))
|((with_reducible apply aa.u0);(case hx=>first
|((with_reducible apply ac.fZ);(case hx=>exact rfl);(case h=>omega))
|exact af))
|fail)
 exact⟨.inl rfl,rfl⟩
def Ew{N R:Nat}{l:List (List Int)}{s:cz}{x:List Int}{n:Int}{X:List bE}(h:bM N R l)(hs:bW N R s)(hx:l[s.i]?=some x)(hn:x[s.r]?=some n)(U:0<=n/\n<=1000000000000)(ha : -1000000000000000<=s.a/\s.a<=1000000000000000)(u:¬(s.a <0/\n+s.a <0))(G:X.length<=4000):Cl ah 38 [.t (.int .i64 (s.i:Int)),.t (.int .i64 (s.r:Int)),.t (.int .i64 s.a),.lp 0 0,.lp 1 0] [.box false 38 [.t (fx l)],.box false 49 [.ls 2],.row false false 4 (ba X)] (.aJ []) [.box false 38 [.t (fx l)],.box false 49 [.ls 2],.row false false 4 (ba X)]:=by
 obtain⟨i,r,a⟩:=s;dsimp only at hx hn ha u⊢;have v:(aF l)[i]?=some [.arr (aE x)]:=iG hx;have y:(aE x)[r]?=some [.int .i64 n]:=aW hn;have J:i <(aF l).length:=aC v;have V:r <(aE x).length:=aC y;have D:=fY X;unfold fx;refine Cl.aq rfl Tryz.func38 rfl rfl rfl ?_;by_cases z:a <0
 ·
  have h1:¬n+a <0:=fun I=>u ⟨z,I⟩;refine ak ?_;exact⟨.inl rfl,rfl⟩
 ·
  refine ak ?_;exact⟨.inl rfl,rfl⟩
def I0{m:Md}{p:Pln}{l:List (List Int)}{er en et:Int}{P:List Int}{ea gk gi ge ga eto pl se:Int}(a1:PW m p)(hr:0<=er/\er <P.length)(aB:rD m p ea P.length=true)(bw:p.ao.length<=1000)(J:bM p.ao.length P.length l)(aV:∀x∈l,∀n∈x,0<=n/\n<=1000000000000):Cl ah 37 [.t (bk m),.t (aN p),.t (bN ⟨er,en,et,P,0,ea,gk,gi,ge,ga,eto,pl,se⟩),.fn (.func 38) 0 [.lp 0 0,.lp 1 0]] [.box false 38 [.t (fx l)],.box false 49 [.nil]] (.aJ []) [.box false 38 [.t (fx l)],.box false 49 [.t (.arr (ba (fX l (du m p ⟨er,en,et,P,0,ea,gk,gi,ge,ga,eto,pl,se⟩))))]]:=by
 obtain⟨r,rfl⟩:=Int.eq_ofNat_of_zero_le hr.1;have an:r <P.length:=by omega
 have bU:=aO P;obtain⟨hv,⟨a8,bb⟩,bz,bT⟩:=kI.1 aB;have hk:bC m ea=true:=eC.2 ⟨a8,bb⟩;have hS:du m p ⟨(r:Int),en,et,P,0,ea,gk,gi,ge,ga,eto,pl,se⟩=bn r (-1) (bO m p ea P.length)++bn r 1 (aT m ea (-1) 0 p.ao):=by unfold du;rw[if_pos rfl];rfl
 have kn:Cl ah 73 [.t (bk m),.t (aN p),.t (.int .i64 ea),.t (.int .i64 (P.length:Int))] [] (.aJ [.ls 0,.t (.bool (eH p ea))]) [.row false false 4 (ba (bO m p ea P.length))]:=Av a1 aB (by omega);have kg:=Ar a1 hv hk (by omega);have hA:=fun x (hx:x∈bO m p ea P.length)=>wC hv hk (R:=P.length) hx;have hB:=fun x (hx:x∈aT m ea (-1) 0 p.ao)=>nw hv hk (.inr rfl) hx
 have aX:(bO m p ea P.length).length<=2000:=by
  have h1:=rR m p ea P.length;have:=(jR.1 hv).eN;omega
 have bd:(aT m ea (-1) 0 p.ao).length<=2000:=by
  have h1:=ou m ea (-1) 0 p.ao;omega
 rw[hS,rO];have be:=fY (bO m p ea P.length);have bf:=fY (aT m ea (-1) 0 p.ao);generalize bO m p ea P.length=A at hA aX kn be⊢;generalize aT m ea (-1) 0 p.ao=B at hB bd kg bf⊢
 have ab:∀s∈bn r (-1) A,bW p.ao.length P.length s:=fun s hs=>by
  unfold bn at hs;obtain⟨x,hx,rfl⟩:=List.mem_map.1 hs;rw[List.mem_filter,decide_eq_true_eq]at hx;obtain⟨j,h1,h2,h3,h4⟩:=hA x hx.1 hx.2;exact⟨by dsimp only;omega,an⟩
 have ad:∀q,∀s∈bn r (-1) (A.take q),bW p.ao.length P.length s:=fun q s hs=>ab s (uy hs);obtain⟨pb,bi⟩:∃b,eH p ea=b:=⟨_,rfl⟩;rw[bi]at kn;unfold aN at kn kg⊢;unfold bN b8;rw[aS,bt]at kn kg⊢;dsimp only;refine Cl.aq rfl Tryz.func37 rfl rfl rfl ?_;refine ak ?_;refine ax.cA (fun x:Nat×(Bool×List bE)=>[(31,.t (.int .i64 (x.1:Int))),(3,.fn (.func 38) 0 [.lp 0 0,.lp 1 0])]) (fun x=>[.box false 38 [.t (fx l)],.box false 49 [.ls 6],.box false 30 (([ay m.ai,.arr (bq m.tables),.arr (bX m.bx),.arr (dc m.cons),.arr (dk m.ops),.arr (cK m.au),.arr (cu m.aG)]:List AV).map .t),.box false 35 (([.arr (eA p.ao),.arr (dO p.aD),.arr (cw p.places),ay p.bh]:List AV).map .t),.box false 57 (([.int .i64 (r:Int),.int .i64 en,.int .i64 et,ay P,.int .i64 0,.int .i64 ea,.int .i64 gk,.int .i64 gi,.int .i64 ge,.int .i64 ga,.int .i64 eto,.int .i64 pl,.int .i64 se]:List AV).map .t),.row false false 4 (ba A),.row false x.2.1 4 (ba x.2.2)]) (fun x=>x.1<=A.length/\x.2.2=fX l (bn r (-1) (A.take x.1))) (fun x=>A.length - x.1) (0,false,[]) rfl rfl ⟨by dsimp only;omega,rfl⟩ (fun x hq=>?_);obtain⟨q,Z,z⟩:=x;dsimp only at hq⊢;obtain⟨h1,h2⟩:=hq;rcases Nat.lt_or_ge q A.length with h3|h3
 ·
  obtain⟨x,hx⟩:=aj h3;have hc:=kX hx;have D:=o9 (r:=r) (sg := -1) hx;have U:=List.mem_of_getElem? hx;have bm:z.length<=2000:=by rw[h2];exact Nat.le_trans (t_ l _) (Nat.le_trans (Bf r (-1) _) (Nat.le_trans (List.length_take_le _ _) (by omega)))
  obtain⟨xk,xi,xe,I⟩:=x;dsimp only at hc D;by_cases a6:xk=0
  ·
   subst a6;obtain⟨j,hj,av,ag,al⟩:=hA _ U rfl;dsimp only at av ag al;subst av;rw[if_pos rfl]at D;have hs:bW p.ao.length P.length ⟨j,r,0 - I⟩:=⟨hj,an⟩;obtain⟨X,n,hX,hn,_,hg,_⟩:=na J hs;have G:=aV X (List.mem_of_getElem? hX) n (List.mem_of_getElem? hn);by_cases v:0 - I <0/\n+(0 - I)<0
   ·
    have V:=Ex (X:=z) J hs hX hn G (by dsimp only;omega) v (by omega);dsimp only at V
    repeat'(first
|((with_reducible apply aa.aR);(case hp=>exact aA))
|(refine ar ?_)
|((with_reducible apply aa.u);(case hx=>((with_reducible apply ac.sT [0,1,6]);(case hdr|hcal|hav|hx|hh=>exact rfl);(case hs0=>kernel_rfl);(case hf=>kernel_rfl);(case hg=>exact rfl);(case hc=>kernel_rfl);(case hm|hb=>exact rfl);(case hcl=>exact V);(case hk=>cases Z <;>rfl);(case hq=>exact rfl);(case hv=>(conv=>lhs;whnf);try exact rfl);(case hl=>exact leq))))
|((with_reducible apply aa.u0);(case hx=>first
|((with_reducible apply ac.fZ);(case hx=>exact rfl);(case h=>omega))
|exact af))
|fail)
    refine⟨(q+1,true,z++[⟨0,(j:Int),0,0 - (0 - I) - n⟩]),(by cases Z <;>rfl),(by cases Z <;>rfl),⟨by dsimp only;omega,?_⟩,by dsimp only;omega⟩;dsimp only;rw[D,rO,<- h2,wx,show(-1:Int)*I=0 - I from by omega,show((j:Int)).toNat=j from rfl,hg];dsimp only;rw[if_pos v]
   ·
    have V:=Ew (X:=z) J hs hX hn G (by dsimp only;omega) v (by omega);dsimp only at V
    repeat'(first
|((with_reducible apply aa.aR);(case hp=>exact aA))
|(refine ar ?_)
|((with_reducible apply aa.u);(case hx=>((with_reducible apply ac.sT [0,1,6]);(case hdr|hcal|hav|hx|hh=>exact rfl);(case hs0=>kernel_rfl);(case hf=>kernel_rfl);(case hg=>exact rfl);(case hc=>kernel_rfl);(case hm|hb=>exact rfl);(case hcl=>exact V);(case hk=>cases Z <;>rfl);(case hq=>exact rfl);(case hv=>(conv=>lhs;whnf);try exact rfl);(case hl=>exact leq))))
|((with_reducible apply aa.u0);(case hx=>first
|((with_reducible apply ac.fZ);(case hx=>exact rfl);(case h=>omega))
|exact af))
|fail)
    refine⟨(q+1,Z,z),(by cases Z <;>rfl),(by cases Z <;>rfl),⟨by dsimp only;omega,?_⟩,by dsimp only;omega⟩;dsimp only;rw[D,rO,<- h2,wx,show(-1:Int)*I=0 - I from by omega,show((j:Int)).toNat=j from rfl,hg];dsimp only;rw[if_neg v,List.append_nil]
  ·
   rw[if_neg a6,List.append_nil]at D;refine ak ?_;refine⟨(q+1,Z,z),rfl,rfl,⟨by dsimp only;omega,?_⟩,by dsimp only;omega⟩;dsimp only;rw[D];exact h2
 ·
  rw[List.take_of_length_le h3]at h2;rw[<- h2];have bm:z.length<=2000:=by rw[h2];exact Nat.le_trans (t_ l _) (Nat.le_trans (Bf r (-1) A) aX)
  clear h2 kn hA ab ad;refine ak ?_;refine ax.cA (fun x:Nat×(Bool×List bE)=>[(56,.t (.int .i64 (x.1:Int))),(3,.fn (.func 38) 0 [.lp 0 0,.lp 1 0])]) (fun x=>[.box false 38 [.t (fx l)],.box false 49 [.ls 6],.box false 30 (([ay m.ai,.arr (bq m.tables),.arr (bX m.bx),.arr (dc m.cons),.arr (dk m.ops),.arr (cK m.au),.arr (cu m.aG)]:List AV).map .t),.box false 35 (([.arr (eA p.ao),.arr (dO p.aD),.arr (cw p.places),ay p.bh]:List AV).map .t),.box false 57 (([.int .i64 (r:Int),.int .i64 en,.int .i64 et,ay P,.int .i64 0,.int .i64 ea,.int .i64 gk,.int .i64 gi,.int .i64 ge,.int .i64 ga,.int .i64 eto,.int .i64 pl,.int .i64 se]:List AV).map .t),.row false false 4 (ba A),.row false x.2.1 4 (ba x.2.2),.row false false 4 (ba B)]) (fun x=>x.1<=B.length/\x.2.2=z++fX l (bn r 1 (B.take x.1))) (fun x=>B.length - x.1) (0,Z,z) rfl rfl ⟨by dsimp only;omega,by simp[bn,fX]⟩ (fun x hq=>?_);obtain⟨q,ty,y⟩:=x;dsimp only at hq⊢;obtain⟨h1,h2⟩:=hq;rcases Nat.lt_or_ge q B.length with h3|h3
  ·
   obtain⟨x,hx⟩:=aj h3;have hc:=kX hx;have D:=o9 (r:=r) (sg:=1) hx;have U:=List.mem_of_getElem? hx;obtain⟨j,hj,bl,ag,al⟩:=hB x U
   have b0:y.length<=4000:=by
    have h5:=Nat.le_trans (t_ l _) (Nat.le_trans (Bf r 1 (B.take q)) (List.length_take_le _ _));rw[h2,List.length_append];omega
   obtain⟨xk,xi,xe,I⟩:=x;injection bl with e1 e2 e3 e4
   subst e1 e2 e3;dsimp only at hc D ag al;rw[if_pos rfl]at D;have hs:bW p.ao.length P.length ⟨j,r,I⟩:=⟨hj,an⟩;obtain⟨X,n,hX,hn,_,hg,_⟩:=na J hs;have G:=aV X (List.mem_of_getElem? hX) n (List.mem_of_getElem? hn);by_cases v:I <0/\n+(I)<0
   ·
    have V:=Ex (X:=y) J hs hX hn G (by dsimp only;omega) v (by omega);dsimp only at V
    repeat'(first
|((with_reducible apply aa.aR);(case hp=>exact aA))
|(refine ar ?_)
|((with_reducible apply aa.u);(case hx=>((with_reducible apply ac.sT [0,1,6]);(case hdr|hcal|hav|hx|hh=>exact rfl);(case hs0=>kernel_rfl);(case hf=>kernel_rfl);(case hg=>exact rfl);(case hc=>kernel_rfl);(case hm|hb=>exact rfl);(case hcl=>exact V);(case hk=>cases ty <;>rfl);(case hq=>exact rfl);(case hv=>(conv=>lhs;whnf);try exact rfl);(case hl=>exact leq))))
|((with_reducible apply aa.u0);(case hx=>exact af))
|fail)
    refine⟨(q+1,true,y++[⟨0,(j:Int),0,0 - (I) - n⟩]),(by cases ty <;>rfl),(by cases ty <;>rfl),⟨by dsimp only;omega,?_⟩,by dsimp only;omega⟩;dsimp only;rw[D,rO,<- List.append_assoc,<- h2,wx,show(1:Int)*I=I from by omega,show((j:Int)).toNat=j from rfl,hg];dsimp only;rw[if_pos v]
   ·
    have V:=Ew (X:=y) J hs hX hn G (by dsimp only;omega) v (by omega);dsimp only at V
    repeat'(first
|((with_reducible apply aa.aR);(case hp=>exact aA))
|(refine ar ?_)
|((with_reducible apply aa.u);(case hx=>((with_reducible apply ac.sT [0,1,6]);(case hdr|hcal|hav|hx|hh=>exact rfl);(case hs0=>kernel_rfl);(case hf=>kernel_rfl);(case hg=>exact rfl);(case hc=>kernel_rfl);(case hm|hb=>exact rfl);(case hcl=>exact V);(case hk=>cases ty <;>rfl);(case hq=>exact rfl);(case hv=>(conv=>lhs;whnf);try exact rfl);(case hl=>exact leq))))
|((with_reducible apply aa.u0);(case hx=>exact af))
|fail)
    refine⟨(q+1,ty,y),(by cases ty <;>rfl),(by cases ty <;>rfl),⟨by dsimp only;omega,?_⟩,by dsimp only;omega⟩;dsimp only;rw[D,rO,<- List.append_assoc,<- h2,wx,show(1:Int)*I=I from by omega,show((j:Int)).toNat=j from rfl,hg];dsimp only;rw[if_neg v,List.append_nil]
  ·
   rw[List.take_of_length_le h3]at h2;rw[<- h2];refine ak ?_;exact⟨.inl rfl,rfl⟩
end Go.Proofs.YtjolgbkkocjpgaaGreatDoor
