/- Law 39: rights.Apply and rights.Of,as contracts. No condition. -/
import Derived.Test.YtjolgbkkocjpgaaGreatDoorTRE
set_option linter.defProp false
set_option linter.unusedSimpArgs false
set_option linter.unusedVariables false
set_option linter.unusedSectionVars false
namespace Go.Proofs.YtjolgbkkocjpgaaGreatDoor
open Go.RowKit
set_option maxRecDepth 100000
set_option maxHeartbeats 32000000
def FM{l:List (List Int)}(hl:l.length<=1000000)(hx:∀x∈l,x.length<=1000000):Cl ai 40 [.t (.arr (aO l))] [] (.lo 0 []) [.own false (.arr (aO l))]:=by
 refine Cl.ext (xs:=[.arr (aO l)]) (by kernel_rfl) rfl ?_
 have h1:(aO l).all sA=true:=by
  unfold aO;rw[List.all_map,List.all_eq_true];intro x v;show((aG x).all u6&&Nat.ble (aG x).length 1000000)=true
  rw[Bool.and_eq_true,Nat.ble_eq,aQ];refine⟨?_,hx x v⟩;unfold aG;rw[List.all_map,List.all_eq_true];intro n _;rfl
 have h2:Nat.ble (aO l).length 1000000=true:=by rw[jY,Nat.ble_eq];exact hl
 have h3:sB (aO l)=some (.lo 0 [],[.own false (.arr (aO l))]):=by
  unfold sB;rw[h1,h2];rfl
 have u:qF 40 [.arr (aO l)]=none:=rfl;show nX 40 [.arr (aO l)]=_
 unfold nX;rw[u];exact h3
def zS{p:Pln}{R:Nat}{l:List (List Int)}(h:iD p R l=true):dt p.aw.length R l/\1<=R/\R<=5:=by
 unfold iD at h;simp only[Bool.and_eq_true,decide_eq_true_eq,List.all_eq_true]at h;exact⟨⟨h.2.1,fun x u=>by have:=(h.2.2 x u).1;omega⟩,by omega,by omega⟩
def FN{m:Md}{p:Pln}{e:Ev}(h:PW m p)(hf:p.aw.length<=1000)(hv:dD m p=true){n:Int}(hk:j3 m p n e=true):v8 m p e/\n=e.past.length:=by
 unfold j3 iV at hk;simp only[Bool.and_eq_true,Bool.or_eq_true,Bool.not_eq_true',decide_eq_true_eq,decide_eq_false_iff_not]at hk;obtain⟨⟨v,V,z⟩,D⟩:=hk
 have G:mK e=true:=by
  unfold dK at v;rw[Bool.and_eq_true]at v;exact v.1
 have u:=v;unfold dK at u;unfold mK iN dA at G;simp only[Bool.and_eq_true,decide_eq_true_eq]at G
 have U:1<=e.past.length/\e.past.length<=5:=by
  have h1:=G.1;omega
 refine⟨⟨h,U,by omega,fun J=>?_,fun y=>?_,hf⟩,by omega⟩
 ·rw[qW];rw[if_pos J]at u;simp only[Bool.and_eq_true,qk,dA,decide_eq_true_eq]at u;refine⟨hv,⟨by omega,?_⟩,by omega,by omega⟩;rcases z with z|z
  ·exact absurd J z
  ·exact z
 ·have I:e.k=1/\e.gk=0:=by
   unfold nh at y;simpa using y
  rw[if_neg (by omega),if_pos I.1]at u;simp only[Bool.and_eq_true,sb,dA,decide_eq_true_eq]at u;rcases D with D|D
  ·rw[y]at D;cases D
  ·omega
def lB(m:Md)(p:Pln)(l:List (List Int))(e:Ev):List (List Int)×Int:=if dD m p=true/\j3 m p e.past.length e=true/\iD p e.past.length l=true then
  (if((fu m p e).foldl gZ (l,0)).2=0 then(((fu m p e).foldl gZ (l,0)).1,0)else([],((fu m p e).foldl gZ (l,0)).2))else([],1)
def FO{m:Md}{p:Pln}{l:List (List Int)}{e:Ev}(h:PW m p)(hf:p.aw.length<=1000)(hl:l.length<=1000000)(hx:∀x∈l,x.length<=1000000)(he:e.past.length<=1000000):Cl ai 17 [.t (bz m),.t (ba p),.t (.arr (aO l)),.t (cV e)] [] (.t (.aL [.arr (aO (lB m p l e).1),.int .i64 (lB m p l e).2])) []:=by
 have y:=h.v;have u:=FC (p:=p) h.md (e.past.length:Int) e (by omega) (by omega);have D:=wc (p:=p) (e.past.length:Int) (l:=l) (by omega) (by omega) (fun x hm=>by have:=hx x hm;omega);have kc:=FM hl hx;have ab:=aQ e.past;unfold lB
 cases Z:dD m p with
 |false=>
  rw[Z]at y;rw[if_neg (by simp)];unfold ba at y u D⊢;unfold cV c9 at u⊢;rw[aW]at y u⊢;rw[bX]at y u D⊢;refine Cl.fO rfl Tryz.func17 rfl rfl rfl ?_;exact af
 |true=>
  rw[Z]at y
  cases I:j3 m p (e.past.length:Int) e with
  |false=>
   rw[I]at u;rw[if_neg (by simp)];unfold ba at y u D⊢;unfold cV c9 at u⊢;rw[aW]at y u⊢;rw[bX]at y u D⊢;refine Cl.fO rfl Tryz.func17 rfl rfl rfl ?_;exact af
  |true=>
   rw[I]at u
   cases U:iD p (e.past.length:Int) l with
   |false=>
    rw[U]at D;rw[if_neg (by simp)];unfold ba at y u D⊢;unfold cV c9 at u⊢;rw[aW]at y u⊢;rw[bX]at y u D⊢;refine Cl.fO rfl Tryz.func17 rfl rfl rfl ?_;exact af
   |true=>
    rw[U]at D;rw[if_pos ⟨rfl,rfl,rfl⟩];obtain⟨J,_⟩:=FN h hf Z I;obtain⟨V,_⟩:=zS U;have G:=Pg (z0:=(l,0)) J V;obtain⟨z,hz⟩:∃z,(fu m p e).foldl gZ (l,0)=z:=⟨_,rfl⟩;rw[hz]at G⊢;obtain⟨L,c⟩:=z;dsimp only at G⊢;unfold ba at y u D G⊢;unfold cV c9 at u G⊢;rw[aW]at y u G⊢;rw[bX]at y u D G⊢;refine Cl.fO rfl Tryz.func17 rfl rfl rfl ?_;by_cases hc:c=0
    ·
     subst hc;rw[if_pos rfl]
     repeat'(first
|(with_reducible apply ac.seq)
|((with_reducible apply ac.text);(try case hm=>exact rfl))
|(with_reducible first|apply ac.skip|apply ac.ret|apply az)
|((with_reducible apply ac.aH);(case hc=>exact rfl))
|((with_reducible apply aa.dS);(case hp=>exact aj))
|(with_reducible apply aa.ap)
|((with_reducible apply aa.aD);(case hW=>exact rfl);(case hx=>first
|(exact aq u)
|(exact aq D)
|exact ah))
|((with_reducible apply aa.u0);(case hx=>first
|(exact aq y)
|(exact mJ kc)
|(exact gp [4,5,3] G)
|exact ah))
|fail)
     exact⟨.inr rfl,rfl⟩
    ·
     rw[if_neg hc]
     repeat'(first
|(with_reducible apply ac.seq)
|((with_reducible apply ac.text);(try case hm=>exact rfl))
|((with_reducible apply ac.drawn);(case hm=>exact rfl))
|(with_reducible first|apply ac.skip|apply ac.ret|apply az|apply aV)
|((with_reducible apply ac.aA);(case hc=>exact rfl))
|((with_reducible apply ac.aH);(case hc=>exact rfl))
|((with_reducible apply aa.gN);(case hp=>exact aj))
|(with_reducible apply aa.ap)
|((with_reducible apply aa.aD);(case hW=>exact rfl);(case hx=>first
|(exact aq u)
|(exact aq D)
|exact ah))
|((with_reducible apply aa.u0);(case hx=>first
|(exact aq y)
|(exact mJ kc)
|(exact gp [4,5,3] G)
|exact ah))
|fail)
     exact⟨.inr rfl,rfl⟩
def PI(z:List (List Int))(s:dF):(cH z s).map List.length=z.map List.length:=by
 unfold cH;rw[List.map_set,List.length_set];apply List.ext_getElem?;intro k;by_cases u:s.i=k
 ·subst u;rcases Nat.lt_or_ge s.i z.length with h|h
  ·rw[List.getElem?_set_self (by simpa using h),List.getElem?_map,List.getD_eq_getElem?_getD,List.getElem?_eq_getElem h];rfl
  ·rw[List.getElem?_eq_none (by simpa using h),List.getElem?_eq_none (by simpa using h)]
 ·rw[List.getElem?_set_ne u]
theorem FP:∀(S:List dF) (z:List (List Int)),(S.foldl cH z).map List.length=z.map List.length
 |[],_=>rfl
 |s::S,z=>(FP S (cH z s)).trans (PI z s)
theorem FQ:∀(S:List dF) (z:List (List Int)×Int),(S.foldl gZ z).1=S.foldl cH z.1
 |[],_=>rfl
 |s::S,z=>FQ S (gZ z s)
def PJ{N R:Nat}{l z:List (List Int)}(h:z.map List.length=l.map List.length)(hl:dt N R l):dt N R z:=by
 have u:z.length=l.length:=by have:=congrArg List.length h;simpa using this
 refine⟨u.trans hl.1,fun x D=>?_⟩;have:x.length∈z.map List.length:=List.mem_map.2 ⟨x,D,rfl⟩;rw[h]at this;obtain⟨y,G,v⟩:=List.mem_map.1 this;rw[<- v];exact hl.2 y G
def pB(l:List (List Int))(e:Ev):Int:=match l with
 |[]=>e.past.length
 |x::_=>x.length
def fW(m:Md)(p:Pln)(z:List (List Int))(e:Ev):List (List Int):=(fu m p e).foldl cH z
def gC(m:Md)(p:Pln)(l:List (List Int))(E:List Ev):List (List Int)×Int:=if dD m p=true/\iD p (jE l) l=true/\(E.all fun e=>j3 m p (pB l e) e)=true then(E.foldl (fW m p) l,0)else([],1)
def PK(m:Md)(p:Pln)(z:List (List Int))(e:Ev):(fW m p z e).map List.length=z.map List.length:=FP _ _
theorem we(m:Md)(p:Pln):∀(E:List Ev) (z:List (List Int)),(E.foldl (fW m p) z).map List.length=z.map List.length
 |[],_=>rfl
 |e::E,z=>(we m p E (fW m p z e)).trans (PK m p z e)
def PL{p:Pln}{l:List (List Int)}{e:Ev}(hr:iD p (jE l) l=true)(hn:pB l e=e.past.length):dt p.aw.length e.past.length l:=by
 cases l with
 |nil=>
  unfold iD at hr;simp only[Bool.and_eq_true,decide_eq_true_eq]at hr;exact⟨hr.2.1,fun x u=>by cases u⟩
 |cons x l=>
  have h:=(zS (R:=x.length) hr).1;have:x.length=e.past.length:=by have hn:(x.length:Int)=e.past.length:=hn;omega
  rw[<- this];exact h
def FR{m:Md}{p:Pln}{l:List (List Int)}{E:List Ev}(h:PW m p)(hf:p.aw.length<=1000)(hl:l.length<=1000000)(hx:∀x∈l,x.length<=1000000)(hE:E.length<=1000000)(he:∀e∈E,e.past.length<=1000000):Cl ai 20 [.t (bz m),.t (ba p),.t (.arr (aO l)),.t (.arr (bL E))] [] (.t (.aL [.arr (aO (gC m p l E).1),.int .i64 (gC m p l E).2])) []:=by
 have y:=h.v;have V:=wc (p:=p) (jE l) (l:=l) (by omega) (by omega) (fun x hm=>by have:=hx x hm;omega);have kn:=FB (l:=l) (by omega);have kc:=FM hl hx;have aS:=nc E;have aD:=jY l;unfold gC;have G:=fun(n:Int) (e:Ev) (hm:e∈E)=>FC (p:=p) h.md n e (by have:=he e hm;omega) (by omega);have D:=fun(z:List (List Int)) (e:Ev) (ho:v8 m p e) (hs:dt p.aw.length e.past.length z)=>Pf (z0:=z) ho hs
 cases hv:dD m p with
 |false=>
  rw[hv]at y;rw[if_neg (by simp)];unfold ba at y V⊢;rw[aW]at y⊢;rw[bX]at y V⊢;refine Cl.fO rfl Tryz.func20 rfl rfl rfl ?_;exact af
 |true=>
  rw[hv]at y
  cases hr:iD p (jE l) l with
  |false=>
   rw[hr]at V;rw[if_neg (by simp)];unfold ba at y V⊢;rw[aW]at y⊢;rw[bX]at y V⊢;refine Cl.fO rfl Tryz.func20 rfl rfl rfl ?_;exact af
  |true=>
   rw[hr]at V;obtain⟨T,hT⟩:∃T,(E.all fun e=>j3 m p (pB l e) e)=T:=⟨_,rfl⟩;rw[hT];unfold ba at y V G D⊢;rw[aW]at y G D⊢;rw[bX]at y V G D⊢;refine Cl.fO rfl Tryz.func20 rfl rfl rfl ?_;refine ar ?_;refine aC.cB (fun x:Nat×List (List Int)=>[(30,.t (.int .i64 (x.1:Int)))]) (fun x=>[.box false 30 (([ax m.ak,.arr (br m.tables),.arr (b5 m.bw),.arr (dN m.cons),.arr (dO m.ops),.arr (de m.ay),.arr (cG m.aI)]:List AV).map .t),.box false 35 (([.arr (fq p.aw),.arr (e_ p.aR),.arr (cK p.places),ax p.bI]:List AV).map .t),.own false (.arr (aO x.2)),.box false 38 [.lo 2 []]]) (fun x=>x.1<=E.length/\x.2=(E.take x.1).foldl (fW m p) l/\((E.take x.1).all fun e=>j3 m p (pB l e) e)=true) (fun x=>E.length - x.1) (0,l) rfl rfl ⟨by dsimp only;omega,rfl,rfl⟩ (fun x hq=>?_);obtain⟨q,z⟩:=x;dsimp only at hq⊢;obtain⟨h1,h2,h3⟩:=hq;rcases Nat.lt_or_ge q E.length with h4|h4
   ·
    obtain⟨e,J⟩:=am h4;have hm:=List.mem_of_getElem? J;have hc:(bL E)[q]?=some (c9 e):=by unfold bL;rw[List.getElem?_map,J];rfl
    have a1:=aQ e.past;have au:z.map List.length=l.map List.length:=by rw[h2];exact we m p _ l
    obtain⟨n,hn⟩:∃n,pB l e=n:=⟨_,rfl⟩;obtain⟨b,hb⟩:∃b,j3 m p n e=b:=⟨_,rfl⟩;have G:=G n e hm;rw[hb]at G
    have U:((E.take (q+1)).all fun e=>j3 m p (pB l e) e)=b:=by
     rw[List.take_add_one,List.all_append,h3,J,Bool.true_and];show(j3 m p (pB l e) e&&true)=b
     rw[hn,hb,Bool.and_true]
    have I:(l=[]->n=e.past.length)/\(l≠[]->n=jE l):=by
     cases l with
     |nil=>exact⟨fun _=>hn.symm,fun h=>absurd rfl h⟩
     |cons x l=>exact⟨fun h=>(List.cons_ne_nil _ _ h).elim,fun _=>hn.symm⟩
    cases b with
    |false=>
     have ad:T=false:=by
      rw[<- hT,<- Bool.not_eq_true];intro hA;have:=List.all_eq_true.1 hA e hm;rw[hn,hb]at this;cases this
     subst ad;rw[if_neg (by simp)];unfold cV c9 at G;unfold c9 at hc;by_cases u:l=[]
     ·
      have Z:l.length=0:=by rw[u];rfl
      obtain rfl:=I.1 u;exact af
     ·
      have Z:¬(l.length:Int)=0:=by have:=List.length_pos_iff.2 u;omega
      obtain rfl:=I.2 u;exact af
    |true=>
     obtain⟨an,al⟩:=FN h hf hv (n:=n) hb;have D:=D z e an (PJ au (PL hr (hn.trans al)));have ao:(fu m p e).foldl cH z=(E.take (q+1)).foldl (fW m p) l:=by rw[List.take_add_one,List.foldl_append,<- h2,J];rfl
     rw[ao]at D;obtain⟨z',ab⟩:∃z',(E.take (q+1)).foldl (fW m p) l=z':=⟨_,rfl⟩;rw[ab]at D;unfold cV c9 at G D;unfold c9 at hc;by_cases u:l=[]
     ·
      have Z:l.length=0:=by rw[u];rfl
      obtain rfl:=I.1 u
      repeat'(first
|(with_reducible first|apply ac.seq|apply ac.block)
|((with_reducible apply ac.text);(try case hm=>exact rfl))
|(with_reducible first|apply ac.skip|apply az)
|((with_reducible apply ac.aA);(case hc=>exact rfl))
|((with_reducible apply ac.aH);(case hc=>exact rfl))
|((with_reducible apply aa.aE);(case hp=>exact aj))
|(with_reducible first|apply aa.ap|apply aa.bj)
|((with_reducible apply aa.u0);(case hx=>first
|(exact aq kn)
|(exact aq G)
|(exact gp [3,2] D)
|exact ah))
|fail)
      exact⟨(q+1,z'),rfl,rfl,⟨by dsimp only;omega,ab.symm,U⟩,by dsimp only;omega⟩
     ·
      have Z:¬(l.length:Int)=0:=by have:=List.length_pos_iff.2 u;omega
      obtain rfl:=I.2 u
      repeat'(first
|(with_reducible first|apply ac.seq|apply ac.block)
|((with_reducible apply ac.text);(try case hm=>exact rfl))
|(with_reducible first|apply ac.skip|apply az)
|((with_reducible apply ac.aA);(case hc=>exact rfl))
|((with_reducible apply ac.aH);(case hc=>exact rfl))
|((with_reducible apply aa.aE);(case hp=>exact aj))
|((with_reducible apply aa.bC);(case hp=>exact aj))
|(with_reducible first|apply aa.ap|apply aa.bj)
|((with_reducible apply aa.u0);(case hx=>first
|(exact aq kn)
|(exact aq G)
|(exact gp [3,2] D)
|exact ah))
|fail)
      exact⟨(q+1,z'),rfl,rfl,⟨by dsimp only;omega,ab.symm,U⟩,by dsimp only;omega⟩
   ·
    rw[List.take_of_length_le h4]at h2 h3;have ag:T=true:=by rw[<- hT,h3]
    subst ag;rw[if_pos ⟨rfl,rfl,rfl⟩,<- h2];exact af
def wg(l:List (List Int))(s:dF):List cP:=if s.a <0/\mg l s+s.a <0 then[⟨0,(s.i:Int),0,0 - s.a - mg l s⟩]else[]
def iX(l:List (List Int))(S:List dF):List cP:=S.flatMap (wg l)
def te(l:List (List Int))(S T:List dF):iX l (S++T)=iX l S++iX l T:=by unfold iX;rw[List.flatMap_append]
def wi(l:List (List Int))(s:dF):iX l [s]=if s.a <0/\mg l s+s.a <0 then[⟨0,(s.i:Int),0,0 - s.a - mg l s⟩]else[]:=by unfold iX;simp[wg]
def PM(l:List (List Int))(s:dF):(wg l s).length<=1:=by unfold wg;split <;>simp
theorem wj(l:List (List Int)):∀S:List dF,(iX l S).length<=S.length
 |[]=>Nat.zero_le _
 |s::S=>by
  have h1:=PM l s;have h2:=wj l S;unfold iX at h2⊢;rw[List.flatMap_cons,List.length_append,List.length_cons];omega
def zT(r:Nat)(sg:Int)(A:List cP):(cI r sg A).length<=A.length:=by unfold cI;rw[List.length_map];exact List.length_filter_le _ _
def FT{N R:Nat}{l:List (List Int)}{s:dF}{x:List Int}{n:Int}{X:List cP}(h:dt N R l)(hs:dX N R s)(hx:l[s.i]?=some x)(hn:x[s.r]?=some n)(U:0<=n/\n<=1000000000000)(ha : -1000000000000000<=s.a/\s.a<=1000000000000000)(v:s.a <0/\n+s.a <0)(I:X.length<=4000):Cl ai 38 [.t (.int .i64 (s.i:Int)),.t (.int .i64 (s.r:Int)),.t (.int .i64 s.a),.lp 0 0,.lp 1 0] [.box false 38 [.t (eZ l)],.box false 49 [.ls 2],.row false false 4 (bW X)] (.aL []) [.box false 38 [.t (eZ l)],.box false 49 [.ls 2],.row false true 4 (bW (X++[⟨0,(s.i:Int),0,0 - s.a - n⟩]))]:=by
 obtain⟨i,r,a⟩:=s;dsimp only at hx hn ha v⊢;have y:(aO l)[i]?=some [.arr (aG x)]:=jv hx;have D:(aG x)[r]?=some [.int .i64 n]:=aU hn;have J:i <(aO l).length:=aF y;have V:r <(aG x).length:=aF D;have G:bW X++[[.int .i64 0,.int .i64 (i:Int),.int .i64 0,.int .i64 (0 - a - n)]]=bW (X++[⟨0,(i:Int),0,0 - a - n⟩]):=(vX X [⟨0,(i:Int),0,0 - a - n⟩]);have z:ca ((bW X).length+1) 32=true:=by rw[me];exact zF (by omega)
 unfold eZ;refine Cl.ao rfl Tryz.func38 rfl rfl rfl ?_
 repeat'(first
|(with_reducible apply ac.seq)
|((with_reducible apply ac.text);(try case hm=>exact rfl))
|((with_reducible apply ac.aA);(case hc=>exact rfl))
|((with_reducible apply aa.aE);(case hp=>exact aj))
|((with_reducible apply aa.cd);(case hp=>exact aj))
|(with_reducible first|apply aa.ap|apply aa.nil)
|((with_reducible apply aa.u);(case hx=>((with_reducible apply ae.eP);(case hs=>exact fun _=>rfl);(case ha|ht=>exact rfl);(case hr=>first|(with_reducible exact eH)|(with_reducible exact rw1)|(with_reducible exact eI)|(with_reducible exact rw3)|(with_reducible exact rw4)|exact rfl);(case hx|hy|hn|hb|hok=>exact rfl);(case hlen=>exact z);(case hv=>exact G);(case hk=>exact eQ);(case hf=>exact leq))))
|((with_reducible apply aa.aD);(case hW=>exact rfl);(case hx=>exact ah))
|((with_reducible apply aa.u0);(case hx=>first
|((with_reducible apply ae.gX);(case hx=>exact rfl);(case h=>omega))
|exact ah))
|fail)
 exact⟨.inl rfl,rfl⟩
def FU{N R:Nat}{l:List (List Int)}{s:dF}{x:List Int}{n:Int}{X:List cP}(h:dt N R l)(hs:dX N R s)(hx:l[s.i]?=some x)(hn:x[s.r]?=some n)(U:0<=n/\n<=1000000000000)(ha : -1000000000000000<=s.a/\s.a<=1000000000000000)(u:¬(s.a <0/\n+s.a <0))(G:X.length<=4000):Cl ai 38 [.t (.int .i64 (s.i:Int)),.t (.int .i64 (s.r:Int)),.t (.int .i64 s.a),.lp 0 0,.lp 1 0] [.box false 38 [.t (eZ l)],.box false 49 [.ls 2],.row false false 4 (bW X)] (.aL []) [.box false 38 [.t (eZ l)],.box false 49 [.ls 2],.row false false 4 (bW X)]:=by
 obtain⟨i,r,a⟩:=s;dsimp only at hx hn ha u⊢;have v:(aO l)[i]?=some [.arr (aG x)]:=jv hx;have y:(aG x)[r]?=some [.int .i64 n]:=aU hn;have J:i <(aO l).length:=aF v;have V:r <(aG x).length:=aF y;have D:=me X;unfold eZ;refine Cl.ao rfl Tryz.func38 rfl rfl rfl ?_;by_cases z:a <0
 ·
  have h1:¬n+a <0:=fun I=>u ⟨z,I⟩;refine ar ?_;exact⟨.inl rfl,rfl⟩
 ·
  refine ar ?_;exact⟨.inl rfl,rfl⟩
def PN{m:Md}{p:Pln}{l:List (List Int)}{er en et:Int}{P:List Int}{ea gk gi ge ga eto pl se:Int}(a1:PW m p)(hr:0<=er/\er <P.length)(aD:sX m p ea P.length=true)(bm:p.aw.length<=1000)(J:dt p.aw.length P.length l)(aH:∀x∈l,∀n∈x,0<=n/\n<=1000000000000):Cl ai 37 [.t (bz m),.t (ba p),.t (cV ⟨er,en,et,P,0,ea,gk,gi,ge,ga,eto,pl,se⟩),.fn (.func 38) 0 [.lp 0 0,.lp 1 0]] [.box false 38 [.t (eZ l)],.box false 49 [.nil]] (.aL []) [.box false 38 [.t (eZ l)],.box false 49 [.t (.arr (bW (iX l (fu m p ⟨er,en,et,P,0,ea,gk,gi,ge,ga,eto,pl,se⟩))))]]:=by
 obtain⟨r,rfl⟩:=Int.eq_ofNat_of_zero_le hr.1;have an:r <P.length:=by omega
 have bN:=aQ P;obtain⟨hv,⟨a_,bb⟩,bC,bF⟩:=qW.1 aD;have hk:b9 m ea=true:=ju.2 ⟨a_,bb⟩;have hS:fu m p ⟨(r:Int),en,et,P,0,ea,gk,gi,ge,ga,eto,pl,se⟩=cI r (-1) (cJ m p ea P.length)++cI r 1 (bK m ea (-1) 0 p.aw):=by unfold fu;rw[if_pos rfl];rfl
 have kn:Cl ai 73 [.t (bz m),.t (ba p),.t (.int .i64 ea),.t (.int .i64 (P.length:Int))] [] (.aL [.ls 0,.t (.bool (gU p ea))]) [.row false false 4 (bW (cJ m p ea P.length))]:=zG a1 aD (by omega);have kg:=zH a1 hv hk (by omega);have hA:=fun x (hx:x∈cJ m p ea P.length)=>zM hv hk (R:=P.length) hx;have hB:=fun x (hx:x∈bK m ea (-1) 0 p.aw)=>v_ hv hk (.inr rfl) hx
 have aS:(cJ m p ea P.length).length<=2000:=by
  have h1:=zL m p ea P.length;have:=(l6.1 hv).fo;omega
 have bc:(bK m ea (-1) 0 p.aw).length<=2000:=by
  have h1:=ta m ea (-1) 0 p.aw;omega
 rw[hS,te];have bd:=me (cJ m p ea P.length);have be:=me (bK m ea (-1) 0 p.aw);generalize cJ m p ea P.length=A at hA aS kn bd⊢;generalize bK m ea (-1) 0 p.aw=B at hB bc kg be⊢
 have ab:∀s∈cI r (-1) A,dX p.aw.length P.length s:=fun s hs=>by
  unfold cI at hs;obtain⟨x,hx,rfl⟩:=List.mem_map.1 hs;rw[List.mem_filter,decide_eq_true_eq]at hx;obtain⟨j,h1,h2,h3,h4⟩:=hA x hx.1 hx.2;exact⟨by dsimp only;omega,an⟩
 have ad:∀q,∀s∈cI r (-1) (A.take q),dX p.aw.length P.length s:=fun q s hs=>ab s (zN hs);obtain⟨pb,bf⟩:∃b,gU p ea=b:=⟨_,rfl⟩;rw[bf]at kn;unfold ba at kn kg⊢;unfold cV c9;rw[aW,bX]at kn kg⊢;dsimp only;refine Cl.ao rfl Tryz.func37 rfl rfl rfl ?_;refine ar ?_;refine aC.cB (fun x:Nat×(Bool×List cP)=>[(31,.t (.int .i64 (x.1:Int))),(3,.fn (.func 38) 0 [.lp 0 0,.lp 1 0])]) (fun x=>[.box false 38 [.t (eZ l)],.box false 49 [.ls 6],.box false 30 (([ax m.ak,.arr (br m.tables),.arr (b5 m.bw),.arr (dN m.cons),.arr (dO m.ops),.arr (de m.ay),.arr (cG m.aI)]:List AV).map .t),.box false 35 (([.arr (fq p.aw),.arr (e_ p.aR),.arr (cK p.places),ax p.bI]:List AV).map .t),.box false 57 (([.int .i64 (r:Int),.int .i64 en,.int .i64 et,ax P,.int .i64 0,.int .i64 ea,.int .i64 gk,.int .i64 gi,.int .i64 ge,.int .i64 ga,.int .i64 eto,.int .i64 pl,.int .i64 se]:List AV).map .t),.row false false 4 (bW A),.row false x.2.1 4 (bW x.2.2)]) (fun x=>x.1<=A.length/\x.2.2=iX l (cI r (-1) (A.take x.1))) (fun x=>A.length - x.1) (0,false,[]) rfl rfl ⟨by dsimp only;omega,rfl⟩ (fun x hq=>?_);obtain⟨q,Z,z⟩:=x;dsimp only at hq⊢;obtain⟨h1,h2⟩:=hq;rcases Nat.lt_or_ge q A.length with h3|h3
 ·
  obtain⟨x,hx⟩:=am h3;have hc:=qQ hx;have D:=qZ (r:=r) (sg := -1) hx;have U:=List.mem_of_getElem? hx;have bl:z.length<=2000:=by rw[h2];exact Nat.le_trans (wj l _) (Nat.le_trans (zT r (-1) _) (Nat.le_trans (List.length_take_le _ _) (by omega)))
  obtain⟨xk,xi,xe,I⟩:=x;dsimp only at hc D;by_cases a6:xk=0
  ·
   subst a6;obtain⟨j,hj,au,ag,al⟩:=hA _ U rfl;dsimp only at au ag al;subst au;rw[if_pos rfl]at D;have hs:dX p.aw.length P.length ⟨j,r,0 - I⟩:=⟨hj,an⟩;obtain⟨X,n,hX,hn,_,hg,_⟩:=qY J hs;have G:=aH X (List.mem_of_getElem? hX) n (List.mem_of_getElem? hn);by_cases v:0 - I <0/\n+(0 - I)<0
   ·
    have V:=FT (X:=z) J hs hX hn G (by dsimp only;omega) v (by omega);dsimp only at V
    repeat'(first
|(with_reducible first|apply ac.seq|apply ac.block)
|((with_reducible apply ac.text);(try case hm=>exact rfl))
|(with_reducible first|apply ac.skip|apply az)
|((with_reducible apply ac.aA);(case hc=>exact rfl))
|((with_reducible apply aa.aE);(case hp=>exact aj))
|(with_reducible first|apply aa.ap|apply aa.bj)
|((with_reducible apply aa.u);(case hx=>((with_reducible apply ae.IH [0,1,6]);(case hdr|hcal|hav|hx|hh=>exact rfl);(case hs0=>kernel_rfl);(case hf=>kernel_rfl);(case hg=>exact rfl);(case hc=>kernel_rfl);(case hm|hb=>exact rfl);(case hcl=>exact V);(case hk=>cases Z <;>rfl);(case hq=>exact rfl);(case hv=>(conv=>lhs;whnf);try exact rfl);(case hl=>exact leq))))
|((with_reducible apply aa.u0);(case hx=>first
|((with_reducible apply ae.gX);(case hx=>exact rfl);(case h=>omega))
|exact ah))
|fail)
    refine⟨(q+1,true,z++[⟨0,(j:Int),0,0 - (0 - I) - n⟩]),(by cases Z <;>rfl),(by cases Z <;>rfl),⟨by dsimp only;omega,?_⟩,by dsimp only;omega⟩;dsimp only;rw[D,te,<- h2,wi,show(-1:Int)*I=0 - I from by omega,show((j:Int)).toNat=j from rfl,hg];dsimp only;rw[if_pos v]
   ·
    have V:=FU (X:=z) J hs hX hn G (by dsimp only;omega) v (by omega);dsimp only at V
    repeat'(first
|(with_reducible first|apply ac.seq|apply ac.block)
|((with_reducible apply ac.text);(try case hm=>exact rfl))
|(with_reducible first|apply ac.skip|apply az)
|((with_reducible apply ac.aA);(case hc=>exact rfl))
|((with_reducible apply aa.aE);(case hp=>exact aj))
|(with_reducible first|apply aa.ap|apply aa.bj)
|((with_reducible apply aa.u);(case hx=>((with_reducible apply ae.IH [0,1,6]);(case hdr|hcal|hav|hx|hh=>exact rfl);(case hs0=>kernel_rfl);(case hf=>kernel_rfl);(case hg=>exact rfl);(case hc=>kernel_rfl);(case hm|hb=>exact rfl);(case hcl=>exact V);(case hk=>cases Z <;>rfl);(case hq=>exact rfl);(case hv=>(conv=>lhs;whnf);try exact rfl);(case hl=>exact leq))))
|((with_reducible apply aa.u0);(case hx=>first
|((with_reducible apply ae.gX);(case hx=>exact rfl);(case h=>omega))
|exact ah))
|fail)
    refine⟨(q+1,Z,z),(by cases Z <;>rfl),(by cases Z <;>rfl),⟨by dsimp only;omega,?_⟩,by dsimp only;omega⟩;dsimp only;rw[D,te,<- h2,wi,show(-1:Int)*I=0 - I from by omega,show((j:Int)).toNat=j from rfl,hg];dsimp only;rw[if_neg v,List.append_nil]
  ·
   rw[if_neg a6,List.append_nil]at D;refine ar ?_;refine⟨(q+1,Z,z),rfl,rfl,⟨by dsimp only;omega,?_⟩,by dsimp only;omega⟩;dsimp only;rw[D];exact h2
 ·
  rw[List.take_of_length_le h3]at h2;rw[<- h2];have bl:z.length<=2000:=by rw[h2];exact Nat.le_trans (wj l _) (Nat.le_trans (zT r (-1) A) aS)
  clear h2 kn hA ab ad;refine ar ?_;refine aC.cB (fun x:Nat×(Bool×List cP)=>[(56,.t (.int .i64 (x.1:Int))),(3,.fn (.func 38) 0 [.lp 0 0,.lp 1 0])]) (fun x=>[.box false 38 [.t (eZ l)],.box false 49 [.ls 6],.box false 30 (([ax m.ak,.arr (br m.tables),.arr (b5 m.bw),.arr (dN m.cons),.arr (dO m.ops),.arr (de m.ay),.arr (cG m.aI)]:List AV).map .t),.box false 35 (([.arr (fq p.aw),.arr (e_ p.aR),.arr (cK p.places),ax p.bI]:List AV).map .t),.box false 57 (([.int .i64 (r:Int),.int .i64 en,.int .i64 et,ax P,.int .i64 0,.int .i64 ea,.int .i64 gk,.int .i64 gi,.int .i64 ge,.int .i64 ga,.int .i64 eto,.int .i64 pl,.int .i64 se]:List AV).map .t),.row false false 4 (bW A),.row false x.2.1 4 (bW x.2.2),.row false false 4 (bW B)]) (fun x=>x.1<=B.length/\x.2.2=z++iX l (cI r 1 (B.take x.1))) (fun x=>B.length - x.1) (0,Z,z) rfl rfl ⟨by dsimp only;omega,by simp[cI,iX]⟩ (fun x hq=>?_);obtain⟨q,ty,y⟩:=x;dsimp only at hq⊢;obtain⟨h1,h2⟩:=hq;rcases Nat.lt_or_ge q B.length with h3|h3
  ·
   obtain⟨x,hx⟩:=am h3;have hc:=qQ hx;have D:=qZ (r:=r) (sg:=1) hx;have U:=List.mem_of_getElem? hx;obtain⟨j,hj,bg,ag,al⟩:=hB x U
   have bO:y.length<=4000:=by
    have h5:=Nat.le_trans (wj l _) (Nat.le_trans (zT r 1 (B.take q)) (List.length_take_le _ _));rw[h2,List.length_append];omega
   obtain⟨xk,xi,xe,I⟩:=x;injection bg with e1 e2 e3 e4
   subst e1 e2 e3;dsimp only at hc D ag al;rw[if_pos rfl]at D;have hs:dX p.aw.length P.length ⟨j,r,I⟩:=⟨hj,an⟩;obtain⟨X,n,hX,hn,_,hg,_⟩:=qY J hs;have G:=aH X (List.mem_of_getElem? hX) n (List.mem_of_getElem? hn);by_cases v:I <0/\n+(I)<0
   ·
    have V:=FT (X:=y) J hs hX hn G (by dsimp only;omega) v (by omega);dsimp only at V
    repeat'(first
|(with_reducible first|apply ac.seq|apply ac.block)
|((with_reducible apply ac.text);(try case hm=>exact rfl))
|(with_reducible first|apply ac.skip|apply az)
|((with_reducible apply ac.aA);(case hc=>exact rfl))
|((with_reducible apply aa.aE);(case hp=>exact aj))
|(with_reducible first|apply aa.ap|apply aa.bj)
|((with_reducible apply aa.u);(case hx=>((with_reducible apply ae.IH [0,1,6]);(case hdr|hcal|hav|hx|hh=>exact rfl);(case hs0=>kernel_rfl);(case hf=>kernel_rfl);(case hg=>exact rfl);(case hc=>kernel_rfl);(case hm|hb=>exact rfl);(case hcl=>exact V);(case hk=>cases ty <;>rfl);(case hq=>exact rfl);(case hv=>(conv=>lhs;whnf);try exact rfl);(case hl=>exact leq))))
|((with_reducible apply aa.u0);(case hx=>exact ah))
|fail)
    refine⟨(q+1,true,y++[⟨0,(j:Int),0,0 - (I) - n⟩]),(by cases ty <;>rfl),(by cases ty <;>rfl),⟨by dsimp only;omega,?_⟩,by dsimp only;omega⟩;dsimp only;rw[D,te,<- List.append_assoc,<- h2,wi,show(1:Int)*I=I from by omega,show((j:Int)).toNat=j from rfl,hg];dsimp only;rw[if_pos v]
   ·
    have V:=FU (X:=y) J hs hX hn G (by dsimp only;omega) v (by omega);dsimp only at V
    repeat'(first
|(with_reducible first|apply ac.seq|apply ac.block)
|((with_reducible apply ac.text);(try case hm=>exact rfl))
|(with_reducible first|apply ac.skip|apply az)
|((with_reducible apply ac.aA);(case hc=>exact rfl))
|((with_reducible apply aa.aE);(case hp=>exact aj))
|(with_reducible first|apply aa.ap|apply aa.bj)
|((with_reducible apply aa.u);(case hx=>((with_reducible apply ae.IH [0,1,6]);(case hdr|hcal|hav|hx|hh=>exact rfl);(case hs0=>kernel_rfl);(case hf=>kernel_rfl);(case hg=>exact rfl);(case hc=>kernel_rfl);(case hm|hb=>exact rfl);(case hcl=>exact V);(case hk=>cases ty <;>rfl);(case hq=>exact rfl);(case hv=>(conv=>lhs;whnf);try exact rfl);(case hl=>exact leq))))
|((with_reducible apply aa.u0);(case hx=>exact ah))
|fail)
    refine⟨(q+1,ty,y),(by cases ty <;>rfl),(by cases ty <;>rfl),⟨by dsimp only;omega,?_⟩,by dsimp only;omega⟩;dsimp only;rw[D,te,<- List.append_assoc,<- h2,wi,show(1:Int)*I=I from by omega,show((j:Int)).toNat=j from rfl,hg];dsimp only;rw[if_neg v,List.append_nil]
  ·
   rw[List.take_of_length_le h3]at h2;rw[<- h2];refine ar ?_;exact⟨.inl rfl,rfl⟩
end Go.Proofs.YtjolgbkkocjpgaaGreatDoor
