/- Law 32: the state of events,as the program finds it. No condition. -/
import Derived.Test.YtjolgbkkocjpgaaGreatDoorTNI
import Derived.Test.YtjolgbkkocjpgaaGreatDoorTS
set_option linter.all false
namespace Go.Proofs.YtjolgbkkocjpgaaGreatDoor
open Go.RowKit
set_option maxRecDepth 100000
set_option maxHeartbeats 32000000
section
variable {g:Cfg} {d:Option (List Nat)} {env:Env} {fr:Fr} {i:Nat}
def ac.HZ{xt yt:TypeId}{x y:Operand}{m n:Int}(hx:rd env x=.t (.int .i64 m))(hy:rd env y=.t (.int .i64 n)):ac g d i env fr (.binOp .add xt x y yt) (.t (.int .i64 (IntKind.wrap .i64 (m+n)))) fr []:=
 .lu hx hy (by unfold h_;simp only[if_true,kJ])
end
def C2(t:Tb):Cl ah 105 [.t (.agg (eJ t))] [] (.t (.bool (bA t.kind))) []:=by
 obtain⟨nm,u,C,lo,y,v⟩:=t;have z:eJ ⟨nm,u,C,lo,y,v⟩=[.str nm,.int .i64 u,ay C,.int .i64 lo,.int .i64 y,.int .i64 v]:=rfl;rw[z];show Cl ah _ _ [] (.t (.bool (bA u))) []
 refine Cl.aq rfl Tryz.func105 rfl rfl rfl ?_
 repeat'(first
|((with_reducible apply aa.aX)<;>intro D)
|((with_reducible apply aa.bi)<;>intro D)
|(refine ar ?_)
|((with_reducible apply aa.aB);(case hW=>exact rfl);(case hx=>exact af))
|((with_reducible apply aa.u0);(case hx=>exact af))
|fail)
 all_goals(refine a_ (.inr rfl) rfl ?_;unfold bA;first|(simp_all;done)|(simp_all;omega))
def C1{m:Md}{t:Tb}(hm:bo m)(hs:cx m.ai=true)(ht:t.av.all (cr m.ai)=true)(hl:t.av.length<=3):Cl ah 106 [.t (bk m),.t (.agg (eJ t))] [] (.t (.int .i64 (bG m.ai t.av))) []:=by
 rw[EV hs ht hl];have Z:=aO m.ai;have ab:=hm.ai;obtain⟨nm,J,C,lo,G,D⟩:=t;have ht:C.all (cr m.ai)=true:=ht;have hl:C.length<=3:=hl;have V:=aO C;have U:eJ ⟨nm,J,C,lo,G,D⟩=[.str nm,.int .i64 J,ay C,.int .i64 lo,.int .i64 G,.int .i64 D]:=rfl;rw[aS,U];show Cl ah _ _ [] (.t (.int .i64 (c6 m.ai C))) []
 refine Cl.aq rfl Tryz.func106 rfl rfl rfl ?_;refine ak ?_;refine ax.ind (fun q:Nat=>[(5,.t (.int .i64 (c6 m.ai (C.take q)))),(11,.t (.int .i64 (q:Int)))]) (fun q=>q<=C.length) (fun q=>C.length - q) 0 rfl (by omega) (fun q hq=>?_);rcases Nat.lt_or_ge q C.length with h4|h4
 ·
  obtain⟨c,v⟩:=aj h4;have hc:=aW v;have I:=List.all_eq_true.1 ht c (List.mem_of_getElem? v);have z:=mY hs (C:=C.take (q+1)) (List.all_eq_true.2 fun x hx=>List.all_eq_true.1 ht x (List.mem_of_mem_take hx)) (by simp;omega);have u:=wP (S:=m.ai) v;rw[u]at z;simp only[cr,Bool.and_eq_true,decide_eq_true_eq]at I;obtain⟨h0,h5⟩:=I;obtain⟨s,y⟩:=aj (xs:=m.ai) (k:=c.toNat) (by omega);have hg:=aW y;rw[fb y]at z u;obtain⟨p,hp⟩:∃p,c6 m.ai (C.take q)=p:=⟨_,rfl⟩;rw[hp]at z u⊢;refine ak ?_;refine⟨q+1,?_,rfl,by omega,by omega⟩;rw[u];rfl
 ·
  rw[List.take_of_length_le h4];exact ae
def Lf{l:List Ev}{p:Ev->Bool}{c:AV}(hl:l.length<=140737488351232)(hp:∀x∈l,Cl ah 153 [.t (bN x),.t c] [] (.t (.bool (p x))) []):Cl ah 179 [.t (.arr (cC l)),.t (.fn (.func 153) 0 [c])] [] (.t (.int .i64 (bj p l 0))) []:=by
 have z:=oE l;refine Cl.aq rfl Tryz.func179 rfl rfl rfl ?_;refine ak ?_;refine ax.ind (fun q:Nat=>[(8,.t (.int .i64 (q:Int)))]) (fun q=>q<=l.length/\bj p l 0=bj p (l.drop q) q) (fun q=>l.length - q) 0 rfl (by simp) (fun q D=>?_);obtain⟨h1,h2⟩:=D;rw[h2];rcases Nat.lt_or_ge q l.length with h3|h3
 ·
  obtain⟨e,u⟩:=aj h3;have G:=zk u;have v:=hp e (List.mem_of_getElem? u);rw[drop_at u,iK];obtain⟨b,y⟩:∃b,p e=b:=⟨_,rfl⟩;rw[y]at v⊢
  cases b with
  |true=>
   exact ae
  |false=>
   exact ae
 ·
  rw[List.drop_of_length_le h3];exact ae
def Jo{l:List Ev}{p:Ev->Bool}{c:AV}(hl:l.length<=140737488351232)(hp:∀x∈l,Cl ah 153 [.t (bN x),.t c] [] (.t (.bool (p x))) []):Cl ah 152 [.t (.arr (cC l)),.t (.fn (.func 153) 0 [c])] [] (.t (.bool (l.any p))) []:=by
 have u:=Lf hl hp;rw[<- ik p l 0 (by omega)];refine Cl.aq rfl Tryz.func152 rfl rfl rfl ?_;obtain⟨n,v⟩:∃n,bj p l 0=n:=⟨_,rfl⟩;rw[v]at u⊢;exact ae
def sN(m:Md)(l:List Ev):Bool:=l.all fun e=>fu m e.past.length e
def Kr{m:Md}(hm:bo m)(e:Ev)(he:e.past.length<=140737488351232):Cl ah 153 [.t (bN e),.t (.tp (eD m))] [] (.t (.bool (!fu m e.past.length e))) []:=by
 have u:=C6 hm (e.past.length:Int) e he;have z:=aO e.past;rw[aS]at u;have v:eD m=[ay m.ai,.arr (bq m.tables),.arr (bX m.bx),.arr (dc m.cons),.arr (dk m.ops),.arr (cK m.au),.arr (cu m.aG)]:=rfl;rw[v];obtain⟨b,y⟩:∃b,fu m e.past.length e=b:=⟨_,rfl⟩;rw[y]at u⊢;refine Cl.aq rfl Tryz.func153 rfl rfl rfl ?_;exact ae
theorem ET(p:Ev->Bool):∀l:List Ev,(!l.any fun e=>!p e)=l.all p
 |[]=>rfl
 |x::l=>by
  rw[List.any_cons,List.all_cons,<- ET p l];cases p x <;>simp
def CW{m:Md}{l:List Ev}(hm:bo m)(hl:l.length<=140737488351232)(hp:∀e∈l,e.past.length<=140737488351232):Cl ah 107 [.t (bk m),.t (.arr (cC l))] [] (.t (.bool (sN m l))) []:=by
 have u:=Jo (l:=l) (p:=fun e=>!fu m e.past.length e) (c:=.tp (eD m)) hl fun x D=>Kr hm x (hp x D);have v:sN m l=!l.any fun e=>!fu m e.past.length e:=(ET _ l).symm;have y:eD m=[ay m.ai,.arr (bq m.tables),.arr (bX m.bx),.arr (dc m.cons),.arr (dk m.ops),.arr (cK m.au),.arr (cu m.aG)]:=rfl;rw[y]at u;rw[v,aS];obtain⟨b,z⟩:∃b,(l.any fun e=>!fu m e.past.length e)=b:=⟨_,rfl⟩;rw[z]at u⊢;refine Cl.aq rfl Tryz.func107 rfl rfl rfl ?_;exact ae
set_option maxRecDepth 100000
set_option maxHeartbeats 32000000
structure Small (m:Md):Prop where
 len:bo m
 ok:b7 m=true
 eN:∀a∈m.au,jc (bp m.ai true m.tables) (lN m.ai m.tables).length a=true
def zo{m:Md}{l:List Ev}(h:iJ m l=true):tT m l/\b7 m=true/\(∀a∈m.au,jc (bp m.ai true m.tables) (lN m.ai m.tables).length a=true)/\(∀e∈l,e.past.length<=8)/\bp m.ai true m.tables<=40/\(lN m.ai m.tables).length<=20:=by
 unfold iJ at h;simp only[Bool.and_eq_true,decide_eq_true_eq,List.all_eq_true]at h;obtain⟨h1,h2,h3,h4,u,v⟩:=h;exact⟨h1,h2,h3,fun e y=>by simpa[mX]using h4 e y,u,v⟩
theorem Small.delta{m:Md}(h:Small m){a:dU}(ha:a∈m.au){k:Nat}{c:bv}(hc:a.eff.delta[k]?=some c):0<=c.cell/\c.cell <bp m.ai true m.tables:=by
 have h1:=h.eN a ha;unfold jc at h1;simp only[Bool.and_eq_true]at h1;have:=List.all_eq_true.1 h1.2.1 c (List.mem_of_getElem? hc);simpa[pP]using this
def KR{e:Ev}(h:cW e=true)(hk:e.k=0):0<=e.a:=by
 unfold cW at h;rw[if_pos hk]at h;simp only[Bool.and_eq_true,oc,cO,decide_eq_true_eq]at h;omega
def RD{m:Md}{e:Ev}(h:fu m e.past.length e=true)(hk:e.k=0):∃a,m.au[e.a.toNat]?=some a/\0<=e.a/\e.a <m.au.length:=by
 unfold fu at h;simp only[Bool.and_eq_true,Bool.or_eq_true,Bool.not_eq_true',decide_eq_true_eq,decide_eq_false_iff_not]at h;have u:=KR h.1 hk;have h1:e.a <m.au.length:=h.2.2.resolve_left fun y=>y hk;obtain⟨a,v⟩:=aj (xs:=m.au) (k:=e.a.toNat) (by omega);exact⟨a,v,u,h1⟩
def Kh{m:Md}{e:Ev}{a:dU}(hk:e.k=0)(ha:m.au[e.a.toNat]?=some a):vG m e=a.eff.delta:=by
 unfold vG;rw[if_pos hk,List.getD_eq_getElem?_getD,ha];rfl
def KN{cs:List bv}{out:List Int}{q:Nat}{c:bv}(h:cs[q]?=some c):(cs.take (q+1)).foldl ln out=ln ((cs.take q).foldl ln out) c:=p4 _ _ h
def Kg{m:Md}{l:List Ev}{c:List Int}(Z:Small m)(hl:l.length<=140737488351232)(hp:∀e∈l,e.past.length<=140737488351232)(hcl:c.length<=140737488351232)(hn:¬((c.length:Int)=bp m.ai true m.tables/\sN m l=true)):
  Cl ah 69 [.t (bk m),.t (ay c),.t (.arr (cC l))] [] (.t (.aJ [.arr [],.int .i64 1])) []:=by
 have hm:=Z.len;have V:=ub Z.ok;have ad:=fJ m.tables;have ab:=jk V;have J:=p_ V;have D:=fun(t:Tb) h1 h2=>C1 (t:=t) hm J h1 h2;have kv:=CW hm hl hp;rw[aS]at D kv⊢;refine Cl.cL rfl Tryz.func69 rfl rfl rfl ?_;refine ak ?_;refine ax.ind (fun q:Nat=>[(8,.t (.int .i64 (bp m.ai true (m.tables.take q)))),(19,.t (.int .i64 (q:Int)))]) (fun q=>q<=m.tables.length) (fun q=>m.tables.length - q) 0 rfl (by omega) (fun q hq=>?_);rcases Nat.lt_or_ge q m.tables.length with h3|h3
 ·
  obtain⟨t,U⟩:=aj h3;have hc:=fo U;obtain⟨c1,c2,c3⟩:=jL V U;have kn:=D t c3 c1;have y:=C2 t;have u:=rc (S:=m.ai) true U;have z:=ky (S:=m.ai) true (m.tables.take q);have G:=mS m.ai t.av;have I:(m.tables.take q).length=q:=by simp;omega
  rw[I]at z;obtain⟨a,ha⟩:∃a,bp m.ai true (m.tables.take q)=a:=⟨_,rfl⟩;obtain⟨N,hN⟩:∃N,bG m.ai t.av=N:=⟨_,rfl⟩;rw[ha]at u z⊢;rw[hN]at u G kn;have e1:eJ t=[.str t.name,.int .i64 t.kind,ay t.av,.int .i64 t.lo,.int .i64 t.hi,.int .i64 t.first]:=rfl;rw[e1]at kn y
  cases v:bA t.kind with
  |true=>
   rw[v]at y;rw[v,if_pos rfl]at u;refine ak ?_;refine⟨q+1,?_,rfl,by omega,by omega⟩;rw[u];rfl
  |false=>
   rw[v]at y;rw[v,if_neg (by decide)]at u;refine ak ?_;refine⟨q+1,?_,rfl,by omega,by omega⟩;rw[u];rfl
 ·
  rw[List.take_of_length_le h3];obtain⟨s,hs⟩:∃s,bp m.ai true m.tables=s:=⟨_,rfl⟩;obtain⟨b,hb⟩:∃b,sN m l=b:=⟨_,rfl⟩;rw[hs]at hn⊢;rw[hb]at hn kv
  cases b with
  |true=>
   have ag:(c.length:Int)≠s:=fun h=>hn ⟨h,rfl⟩;exact ae
  |false=>
   exact ae
def Kf{m:Md}{l:List Ev}{c:List Int}(hS:Small m)(hl:l.length<=1000)(hp:∀e∈l,e.past.length<=140737488351232)(hcl:c.length<=1000)(an:(c.length:Int)=bp m.ai true m.tables)(U:sN m l=true):
  Cl ah 69 [.t (bk m),.t (ay c),.t (.arr (cC l))] [] (.t (.aJ [ay (pc m c l),.int .i64 0])) []:=by
 have hm:=hS.len;have hv:=ub hS.ok;have bf:=fJ m.tables;have be:=oE l;have bb:=fN m.au;have aD:=jk hv;have aB:=p_ hv;have Z:=fun(t:Tb) h1 h2=>C1 (t:=t) hm aB h1 h2;have kv:=CW (l:=l) hm (by omega) hp;have kc:=Jf (xs:=c) (by omega);rw[U]at kv;rw[aS]at Z kv⊢;refine Cl.cL rfl Tryz.func69 rfl rfl rfl ?_;refine ak ?_;refine ax.ind (fun q:Nat=>[(8,.t (.int .i64 (bp m.ai true (m.tables.take q)))),(19,.t (.int .i64 (q:Int)))]) (fun q=>q<=m.tables.length) (fun q=>m.tables.length - q) 0 rfl (by omega) (fun q hq=>?_);rcases Nat.lt_or_ge q m.tables.length with h3|h3
 ·
  obtain⟨t,ht⟩:=aj h3;have hc:=fo ht;obtain⟨c1,c2,c3⟩:=jL hv ht;have kn:=Z t c3 c1;have G:=C2 t;have u:=rc (S:=m.ai) true ht;have I:=ky (S:=m.ai) true (m.tables.take q);have ab:=mS m.ai t.av;have aq:(m.tables.take q).length=q:=by simp;omega
  rw[aq]at I;obtain⟨a,ha⟩:∃a,bp m.ai true (m.tables.take q)=a:=⟨_,rfl⟩;obtain⟨N,hN⟩:∃N,bG m.ai t.av=N:=⟨_,rfl⟩;rw[ha]at u I⊢;rw[hN]at u ab kn;have e1:eJ t=[.str t.name,.int .i64 t.kind,ay t.av,.int .i64 t.lo,.int .i64 t.hi,.int .i64 t.first]:=rfl;rw[e1]at kn G
  cases y:bA t.kind with
  |true=>
   rw[y]at G;rw[y,if_pos rfl]at u;refine ak ?_;refine⟨q+1,?_,rfl,by omega,by omega⟩;rw[u];rfl
  |false=>
   rw[y]at G;rw[y,if_neg (by decide)]at u;refine ak ?_;refine⟨q+1,?_,rfl,by omega,by omega⟩;rw[u];rfl
 ·
  rw[List.take_of_length_le h3,<- an];refine ak ?_;refine ax.cA (fun q:Nat=>[(45,.t (.int .i64 (q:Int)))]) (fun q=>[.box false 30 ((eD m).map .t),.row false false 1 (aE (pc m c (l.take q)))]) (fun q=>q<=l.length) (fun q=>l.length - q) 0 rfl rfl (by omega) (fun q hq=>?_);rcases Nat.lt_or_ge q l.length with g3|g3
  ·
   obtain⟨e,he⟩:=aj g3;have a6:=zk he;have D:=QM (m:=m) (out:=c) he;have ao:=QL m (l.take q) c;obtain⟨X,hX⟩:∃X,pc m c (l.take q)=X:=⟨_,rfl⟩;rw[hX]at D ao⊢;by_cases hk:e.k=0
   ·
    obtain⟨a,ha,a0,a1⟩:=RD (List.all_eq_true.1 U e (List.mem_of_getElem? he)) hk;have aG:=ei ha;have bd:=q_ a.eff.delta;have aX:=hm.delta a (List.mem_of_getElem? ha);have ad:=Kh hk ha;have z:qU m X e=a.eff.delta.foldl ln X:=by unfold qU;rw[ad]
    rw[z]at D;refine ak ?_;refine ax.cA (fun k:Nat=>[(61,.t (.int .i64 (k:Int)))]) (fun k=>[.box false 30 ((eD m).map .t),.row false false 1 (aE ((a.eff.delta.take k).foldl ln X)),.box false 57 (([.int .i64 e.r,.int .i64 e.n,.int .i64 e.t,ay e.past,.int .i64 e.k,.int .i64 e.a,.int .i64 e.gk,.int .i64 e.gi,.int .i64 e.ge,.int .i64 e.ga,.int .i64 e.to,.int .i64 e.pl,.int .i64 e.se]:List AV).map .t)]) (fun k=>k<=a.eff.delta.length) (fun k=>a.eff.delta.length - k) 0 rfl rfl (by omega) (fun k a8=>?_);rcases Nat.lt_or_ge k a.eff.delta.length with g4|g4
    ·
     obtain⟨d,hd⟩:=aj g4;have aV:=pO hd;obtain⟨d0,d1⟩:=hS.delta (List.mem_of_getElem? ha) hd;have J:=KN (out:=X) hd;have ag:=Dl (a.eff.delta.take k) X;obtain⟨Y,hY⟩:∃Y,(a.eff.delta.take k).foldl ln X=Y:=⟨_,rfl⟩;rw[hY]at J ag⊢;obtain⟨v,V⟩:=aj (xs:=Y) (k:=d.cell.toNat) (by omega);have al:=aW V;have bh:=aO Y
     have y:(aE Y).set d.cell.toNat [.int .i64 (IntKind.wrap .i64 (v+d.add))]=aE ((a.eff.delta.take (k+1)).foldl ln X):=by
      rw[J,ln,fb V];simp[aE,List.map_set]
     repeat'(first
|((with_reducible apply aa.aR);(case hp=>exact aA))
|(refine ar ?_)
|((with_reducible apply aa.u0);(case hx=>first
|((with_reducible apply ac.HZ (m:=v) (n:=d.add));(case hx|hy=>exact rfl))
|((with_reducible apply ac.qE);(case hs=>exact fun _=>rfl);(case ha|hy|ht|hone=>exact rfl);(case hn=>kernel_rfl);(case hb=>exact rfl);(case hk=>exact al);(case hj=>exact rfl);(case hv=>exact y);(case hf=>exact leq))
|exact af))
|fail)
     exact⟨k+1,rfl,rfl,by omega,by omega⟩
    ·
     rw[List.take_of_length_le g4];refine ak ?_;exact⟨q+1,rfl,by rw[D];rfl,by omega,by omega⟩
   ·
    have z:qU m X e=X:=by unfold qU vG;rw[if_neg hk];rfl
    rw[z]at D;refine ak ?_;exact⟨q+1,rfl,by rw[D];rfl,by omega,by omega⟩
  ·
   rw[List.take_of_length_le g3];exact ae
end Go.Proofs.YtjolgbkkocjpgaaGreatDoor
