/- Law 32: the state of events,as the program finds it. No condition. -/
import Derived.Test.YtjolgbkkocjpgaaGreatDoorTNI
import Derived.Test.YtjolgbkkocjpgaaGreatDoorTS
set_option linter.defProp false
set_option linter.unusedSimpArgs false
set_option linter.unusedVariables false
set_option linter.unusedSectionVars false
namespace Go.Proofs.YtjolgbkkocjpgaaGreatDoor
open Go.RowKit
set_option maxRecDepth 100000
set_option maxHeartbeats 32000000
section
variable {g:Cfg} {d:Option (List Nat)} {env:Env} {fr:Fr} {i:Nat}
def ae.Pu{xt yt:TypeId}{x y:Operand}{m n:Int}(hx:rd env x=.t (.int .i64 m))(hy:rd env y=.t (.int .i64 n)):ae g d i env fr (.binOp .add xt x y yt) (.t (.int .i64 (IntKind.wrap .i64 (m+n)))) fr []:=
 .kP hx hy (by unfold gF;simp only[if_true,jH])
end
def FD(t:Tb):Cl ai 105 [.t (.agg (dV t))] [] (.t (.bool (bp t.kind))) []:=by
 obtain⟨nm,u,C,lo,y,v⟩:=t;have z:dV ⟨nm,u,C,lo,y,v⟩=[.str nm,.int .i64 u,ax C,.int .i64 lo,.int .i64 y,.int .i64 v]:=rfl;rw[z];show Cl ai _ _ [] (.t (.bool (bp u))) []
 refine Cl.ao rfl Tryz.func105 rfl rfl rfl ?_
 repeat'(first
|(with_reducible apply ac.seq)
|((with_reducible apply ac.text);(try case hm=>exact rfl))
|(with_reducible apply ac.ret)
|((with_reducible apply aa.bc)<;>intro D)
|((with_reducible apply aa.bg)<;>intro D)
|(with_reducible apply aa.ap)
|((with_reducible apply aa.gf);(case hW=>exact rfl))
|((with_reducible apply aa.aD);(case hW=>exact rfl);(case hx=>exact ah))
|((with_reducible apply aa.u0);(case hx=>exact ah))
|fail)
 all_goals(refine aZ (.inr rfl) rfl ?_;unfold bp;first|(simp_all;done)|(simp_all;omega))
def FE{m:Md}{t:Tb}(hm:bt m)(hs:ce m.ak=true)(ht:t.au.all (cg m.ak)=true)(hl:t.au.length<=3):Cl ai 106 [.t (bz m),.t (.agg (dV t))] [] (.t (.int .i64 (bE m.ak t.au))) []:=by
 rw[EP hs ht hl];have Z:=aQ m.ak;have ab:=hm.ak;obtain⟨nm,J,C,lo,G,D⟩:=t;have ht:C.all (cg m.ak)=true:=ht;have hl:C.length<=3:=hl;have V:=aQ C;have U:dV ⟨nm,J,C,lo,G,D⟩=[.str nm,.int .i64 J,ax C,.int .i64 lo,.int .i64 G,.int .i64 D]:=rfl;rw[aW,U];show Cl ai _ _ [] (.t (.int .i64 (cU m.ak C))) []
 refine Cl.ao rfl Tryz.func106 rfl rfl rfl ?_;refine ar ?_;refine aC.ind (fun q:Nat=>[(5,.t (.int .i64 (cU m.ak (C.take q)))),(11,.t (.int .i64 (q:Int)))]) (fun q=>q<=C.length) (fun q=>C.length - q) 0 rfl (by omega) (fun q hq=>?_);rcases Nat.lt_or_ge q C.length with h4|h4
 ·
  obtain⟨c,v⟩:=am h4;have hc:=aU v;have I:=List.all_eq_true.1 ht c (List.mem_of_getElem? v);have z:=lZ hs (C:=C.take (q+1)) (List.all_eq_true.2 fun x hx=>List.all_eq_true.1 ht x (List.mem_of_mem_take hx)) (by simp;omega);have u:=uQ (S:=m.ak) v;rw[u]at z;simp only[cg,Bool.and_eq_true,decide_eq_true_eq]at I;obtain⟨h0,h5⟩:=I;obtain⟨s,y⟩:=am (xs:=m.ak) (k:=c.toNat) (by omega);have hg:=aU y;rw[eR y]at z u;obtain⟨p,hp⟩:∃p,cU m.ak (C.take q)=p:=⟨_,rfl⟩;rw[hp]at z u⊢;refine ar ?_;refine⟨q+1,?_,rfl,by omega,by omega⟩;rw[u];rfl
 ·
  rw[List.take_of_length_le h4];exact af
def Pv{l:List Ev}{p:Ev->Bool}{c:AV}(hl:l.length<=140737488351232)(hp:∀x∈l,Cl ai 153 [.t (cV x),.t c] [] (.t (.bool (p x))) []):Cl ai 179 [.t (.arr (bL l)),.t (.fn (.func 153) 0 [c])] [] (.t (.int .i64 (a8 p l 0))) []:=by
 have z:=nc l;refine Cl.ao rfl Tryz.func179 rfl rfl rfl ?_;refine ar ?_;refine aC.ind (fun q:Nat=>[(8,.t (.int .i64 (q:Int)))]) (fun q=>q<=l.length/\a8 p l 0=a8 p (l.drop q) q) (fun q=>l.length - q) 0 rfl (by simp) (fun q D=>?_);obtain⟨h1,h2⟩:=D;rw[h2];rcases Nat.lt_or_ge q l.length with h3|h3
 ·
  obtain⟨e,u⟩:=am h3;have G:=qS u;have v:=hp e (List.mem_of_getElem? u);rw[drop_at u,gV];obtain⟨b,y⟩:∃b,p e=b:=⟨_,rfl⟩;rw[y]at v⊢
  cases b with
  |true=>
   exact af
  |false=>
   exact af
 ·
  rw[List.drop_of_length_le h3];exact af
def Pw{l:List Ev}{p:Ev->Bool}{c:AV}(hl:l.length<=140737488351232)(hp:∀x∈l,Cl ai 153 [.t (cV x),.t c] [] (.t (.bool (p x))) []):Cl ai 152 [.t (.arr (bL l)),.t (.fn (.func 153) 0 [c])] [] (.t (.bool (l.any p))) []:=by
 have u:=Pv hl hp;rw[<- gy p l 0 (by omega)];refine Cl.ao rfl Tryz.func152 rfl rfl rfl ?_;obtain⟨n,v⟩:∃n,a8 p l 0=n:=⟨_,rfl⟩;rw[v]at u⊢;exact af
def td(m:Md)(l:List Ev):Bool:=l.all fun e=>iV m e.past.length e
def Px{m:Md}(hm:bt m)(e:Ev)(he:e.past.length<=140737488351232):Cl ai 153 [.t (cV e),.t (.tp (dW m))] [] (.t (.bool (!iV m e.past.length e))) []:=by
 have u:=EU hm (e.past.length:Int) e he;have z:=aQ e.past;rw[aW]at u;have v:dW m=[ax m.ak,.arr (br m.tables),.arr (b5 m.bw),.arr (dN m.cons),.arr (dO m.ops),.arr (de m.ay),.arr (cG m.aI)]:=rfl;rw[v];obtain⟨b,y⟩:∃b,iV m e.past.length e=b:=⟨_,rfl⟩;rw[y]at u⊢;refine Cl.ao rfl Tryz.func153 rfl rfl rfl ?_;exact af
theorem FF(p:Ev->Bool):∀l:List Ev,(!l.any fun e=>!p e)=l.all p
 |[]=>rfl
 |x::l=>by
  rw[List.any_cons,List.all_cons,<- FF p l];cases p x <;>simp
def FG{m:Md}{l:List Ev}(hm:bt m)(hl:l.length<=140737488351232)(hp:∀e∈l,e.past.length<=140737488351232):Cl ai 107 [.t (bz m),.t (.arr (bL l))] [] (.t (.bool (td m l))) []:=by
 have u:=Pw (l:=l) (p:=fun e=>!iV m e.past.length e) (c:=.tp (dW m)) hl fun x D=>Px hm x (hp x D);have v:td m l=!l.any fun e=>!iV m e.past.length e:=(FF _ l).symm;have y:dW m=[ax m.ak,.arr (br m.tables),.arr (b5 m.bw),.arr (dN m.cons),.arr (dO m.ops),.arr (de m.ay),.arr (cG m.aI)]:=rfl;rw[y]at u;rw[v,aW];obtain⟨b,z⟩:∃b,(l.any fun e=>!iV m e.past.length e)=b:=⟨_,rfl⟩;rw[z]at u⊢;refine Cl.ao rfl Tryz.func107 rfl rfl rfl ?_;exact af
set_option maxRecDepth 100000
set_option maxHeartbeats 32000000
structure Small (m:Md):Prop where
 len:bt m
 ok:cm m=true
 fo:∀a∈m.ay,jC (bn m.ak true m.tables) (kZ m.ak m.tables).length a=true
def FH{m:Md}{l:List Ev}(h:jD m l=true):sU m l/\cm m=true/\(∀a∈m.ay,jC (bn m.ak true m.tables) (kZ m.ak m.tables).length a=true)/\(∀e∈l,e.past.length<=8)/\bn m.ak true m.tables<=40/\(kZ m.ak m.tables).length<=20:=by
 unfold jD at h;simp only[Bool.and_eq_true,decide_eq_true_eq,List.all_eq_true]at h;obtain⟨h1,h2,h3,h4,u,v⟩:=h;exact⟨h1,h2,h3,fun e y=>by simpa[l_]using h4 e y,u,v⟩
theorem Small.delta{m:Md}(h:Small m){a:eD}(ha:a∈m.ay){k:Nat}{c:bD}(hc:a.eff.delta[k]?=some c):0<=c.cell/\c.cell <bn m.ak true m.tables:=by
 have h1:=h.fo a ha;unfold jC at h1;simp only[Bool.and_eq_true]at h1;have:=List.all_eq_true.1 h1.2.1 c (List.mem_of_getElem? hc);simpa[pA]using this
def Py{e:Ev}(h:dK e=true)(hk:e.k=0):0<=e.a:=by
 unfold dK at h;rw[if_pos hk]at h;simp only[Bool.and_eq_true,qk,dA,decide_eq_true_eq]at h;omega
def Pz{m:Md}{e:Ev}(h:iV m e.past.length e=true)(hk:e.k=0):∃a,m.ay[e.a.toNat]?=some a/\0<=e.a/\e.a <m.ay.length:=by
 unfold iV at h;simp only[Bool.and_eq_true,Bool.or_eq_true,Bool.not_eq_true',decide_eq_true_eq,decide_eq_false_iff_not]at h;have u:=Py h.1 hk;have h1:e.a <m.ay.length:=h.2.2.resolve_left fun y=>y hk;obtain⟨a,v⟩:=am (xs:=m.ay) (k:=e.a.toNat) (by omega);exact⟨a,v,u,h1⟩
def PA{m:Md}{e:Ev}{a:eD}(hk:e.k=0)(ha:m.ay[e.a.toNat]?=some a):uV m e=a.eff.delta:=by
 unfold uV;rw[if_pos hk,List.getD_eq_getElem?_getD,ha];rfl
def PB{cs:List bD}{out:List Int}{q:Nat}{c:bD}(h:cs[q]?=some c):(cs.take (q+1)).foldl kX out=kX ((cs.take q).foldl kX out) c:=qi _ _ h
def PC{m:Md}{l:List Ev}{c:List Int}(Z:Small m)(hl:l.length<=140737488351232)(hp:∀e∈l,e.past.length<=140737488351232)(hcl:c.length<=140737488351232)(hn:¬((c.length:Int)=bn m.ak true m.tables/\td m l=true)):
  Cl ai 69 [.t (bz m),.t (ax c),.t (.arr (bL l))] [] (.t (.aL [.arr [],.int .i64 1])) []:=by
 have hm:=Z.len;have V:=qU Z.ok;have ad:=e9 m.tables;have ab:=iQ V;have J:=ph V;have D:=fun(t:Tb) h1 h2=>FE (t:=t) hm J h1 h2;have kv:=FG hm hl hp;rw[aW]at D kv⊢;refine Cl.fO rfl Tryz.func69 rfl rfl rfl ?_;refine ar ?_;refine aC.ind (fun q:Nat=>[(8,.t (.int .i64 (bn m.ak true (m.tables.take q)))),(19,.t (.int .i64 (q:Int)))]) (fun q=>q<=m.tables.length) (fun q=>m.tables.length - q) 0 rfl (by omega) (fun q hq=>?_);rcases Nat.lt_or_ge q m.tables.length with h3|h3
 ·
  obtain⟨t,U⟩:=am h3;have hc:=eK U;obtain⟨c1,c2,c3⟩:=jp V U;have kn:=D t c3 c1;have y:=FD t;have u:=qu (S:=m.ak) true U;have z:=jT (S:=m.ak) true (m.tables.take q);have G:=l4 m.ak t.au;have I:(m.tables.take q).length=q:=by simp;omega
  rw[I]at z;obtain⟨a,ha⟩:∃a,bn m.ak true (m.tables.take q)=a:=⟨_,rfl⟩;obtain⟨N,hN⟩:∃N,bE m.ak t.au=N:=⟨_,rfl⟩;rw[ha]at u z⊢;rw[hN]at u G kn;have e1:dV t=[.str t.name,.int .i64 t.kind,ax t.au,.int .i64 t.lo,.int .i64 t.hi,.int .i64 t.first]:=rfl;rw[e1]at kn y
  cases v:bp t.kind with
  |true=>
   rw[v]at y;rw[v,if_pos rfl]at u;refine ar ?_;refine⟨q+1,?_,rfl,by omega,by omega⟩;rw[u];rfl
  |false=>
   rw[v]at y;rw[v,if_neg (by decide)]at u;refine ar ?_;refine⟨q+1,?_,rfl,by omega,by omega⟩;rw[u];rfl
 ·
  rw[List.take_of_length_le h3];obtain⟨s,hs⟩:∃s,bn m.ak true m.tables=s:=⟨_,rfl⟩;obtain⟨b,hb⟩:∃b,td m l=b:=⟨_,rfl⟩;rw[hs]at hn⊢;rw[hb]at hn kv
  cases b with
  |true=>
   have ag:(c.length:Int)≠s:=fun h=>hn ⟨h,rfl⟩;exact af
  |false=>
   exact af
def PD{m:Md}{l:List Ev}{c:List Int}(hS:Small m)(hl:l.length<=1000)(hp:∀e∈l,e.past.length<=140737488351232)(hcl:c.length<=1000)(an:(c.length:Int)=bn m.ak true m.tables)(U:td m l=true):
  Cl ai 69 [.t (bz m),.t (ax c),.t (.arr (bL l))] [] (.t (.aL [ax (nO m c l),.int .i64 0])) []:=by
 have hm:=hS.len;have hv:=qU hS.ok;have be:=e9 m.tables;have bd:=nc l;have bb:=jx m.ay;have aH:=iQ hv;have aD:=ph hv;have Z:=fun(t:Tb) h1 h2=>FE (t:=t) hm aD h1 h2;have kv:=FG (l:=l) hm (by omega) hp;have kc:=KQ (xs:=c) (by omega);rw[U]at kv;rw[aW]at Z kv⊢;refine Cl.fO rfl Tryz.func69 rfl rfl rfl ?_;refine ar ?_;refine aC.ind (fun q:Nat=>[(8,.t (.int .i64 (bn m.ak true (m.tables.take q)))),(19,.t (.int .i64 (q:Int)))]) (fun q=>q<=m.tables.length) (fun q=>m.tables.length - q) 0 rfl (by omega) (fun q hq=>?_);rcases Nat.lt_or_ge q m.tables.length with h3|h3
 ·
  obtain⟨t,ht⟩:=am h3;have hc:=eK ht;obtain⟨c1,c2,c3⟩:=jp hv ht;have kn:=Z t c3 c1;have G:=FD t;have u:=qu (S:=m.ak) true ht;have I:=jT (S:=m.ak) true (m.tables.take q);have ab:=l4 m.ak t.au;have aw:(m.tables.take q).length=q:=by simp;omega
  rw[aw]at I;obtain⟨a,ha⟩:∃a,bn m.ak true (m.tables.take q)=a:=⟨_,rfl⟩;obtain⟨N,hN⟩:∃N,bE m.ak t.au=N:=⟨_,rfl⟩;rw[ha]at u I⊢;rw[hN]at u ab kn;have e1:dV t=[.str t.name,.int .i64 t.kind,ax t.au,.int .i64 t.lo,.int .i64 t.hi,.int .i64 t.first]:=rfl;rw[e1]at kn G
  cases y:bp t.kind with
  |true=>
   rw[y]at G;rw[y,if_pos rfl]at u;refine ar ?_;refine⟨q+1,?_,rfl,by omega,by omega⟩;rw[u];rfl
  |false=>
   rw[y]at G;rw[y,if_neg (by decide)]at u;refine ar ?_;refine⟨q+1,?_,rfl,by omega,by omega⟩;rw[u];rfl
 ·
  rw[List.take_of_length_le h3,<- an];refine ar ?_;refine aC.cB (fun q:Nat=>[(45,.t (.int .i64 (q:Int)))]) (fun q=>[.box false 30 ((dW m).map .t),.row false false 1 (aG (nO m c (l.take q)))]) (fun q=>q<=l.length) (fun q=>l.length - q) 0 rfl rfl (by omega) (fun q hq=>?_);rcases Nat.lt_or_ge q l.length with g3|g3
  ·
   obtain⟨e,he⟩:=am g3;have a6:=qS he;have D:=JQ (m:=m) (out:=c) he;have ao:=JP m (l.take q) c;obtain⟨X,hX⟩:∃X,nO m c (l.take q)=X:=⟨_,rfl⟩;rw[hX]at D ao⊢;by_cases hk:e.k=0
   ·
    obtain⟨a,ha,a0,a1⟩:=Pz (List.all_eq_true.1 U e (List.mem_of_getElem? he)) hk;have aI:=jZ ha;have bc:=sI a.eff.delta;have aS:=hm.delta a (List.mem_of_getElem? ha);have ad:=PA hk ha;have z:qx m X e=a.eff.delta.foldl kX X:=by unfold qx;rw[ad]
    rw[z]at D;refine ar ?_;refine aC.cB (fun k:Nat=>[(61,.t (.int .i64 (k:Int)))]) (fun k=>[.box false 30 ((dW m).map .t),.row false false 1 (aG ((a.eff.delta.take k).foldl kX X)),.box false 57 (([.int .i64 e.r,.int .i64 e.n,.int .i64 e.t,ax e.past,.int .i64 e.k,.int .i64 e.a,.int .i64 e.gk,.int .i64 e.gi,.int .i64 e.ge,.int .i64 e.ga,.int .i64 e.to,.int .i64 e.pl,.int .i64 e.se]:List AV).map .t)]) (fun k=>k<=a.eff.delta.length) (fun k=>a.eff.delta.length - k) 0 rfl rfl (by omega) (fun k a_=>?_);rcases Nat.lt_or_ge k a.eff.delta.length with g4|g4
    ·
     obtain⟨d,hd⟩:=am g4;have aR:=qM hd;obtain⟨d0,d1⟩:=hS.delta (List.mem_of_getElem? ha) hd;have J:=PB (out:=X) hd;have ag:=C2 (a.eff.delta.take k) X;obtain⟨Y,hY⟩:∃Y,(a.eff.delta.take k).foldl kX X=Y:=⟨_,rfl⟩;rw[hY]at J ag⊢;obtain⟨v,V⟩:=am (xs:=Y) (k:=d.cell.toNat) (by omega);have al:=aU V;have bf:=aQ Y
     have y:(aG Y).set d.cell.toNat [.int .i64 (IntKind.wrap .i64 (v+d.add))]=aG ((a.eff.delta.take (k+1)).foldl kX X):=by
      rw[J,kX,eR V];simp[aG,List.map_set]
     repeat'(first
|(with_reducible first|apply ac.seq|apply ac.block)
|((with_reducible apply ac.text);(try case hm=>exact rfl))
|((with_reducible apply ac.drawn);(case hm=>exact rfl))
|(with_reducible first|apply ac.skip|apply az)
|((with_reducible apply ac.aA);(case hc=>exact rfl))
|((with_reducible apply aa.aE);(case hp=>exact aj))
|(with_reducible first|apply aa.ap|apply aa.bj)
|((with_reducible apply aa.u0);(case hx=>first
|((with_reducible apply ae.Pu (m:=v) (n:=d.add));(case hx|hy=>exact rfl))
|((with_reducible apply ae.o7);(case hs=>exact fun _=>rfl);(case ha|hy|ht|hone=>exact rfl);(case hn=>kernel_rfl);(case hb=>exact rfl);(case hk=>exact al);(case hj=>exact rfl);(case hv=>exact y);(case hf=>exact leq))
|exact ah))
|fail)
     exact⟨k+1,rfl,rfl,by omega,by omega⟩
    ·
     rw[List.take_of_length_le g4];refine ar ?_;exact⟨q+1,rfl,by rw[D];rfl,by omega,by omega⟩
   ·
    have z:qx m X e=X:=by unfold qx uV;rw[if_neg hk];rfl
    rw[z]at D;refine ar ?_;exact⟨q+1,rfl,by rw[D];rfl,by omega,by omega⟩
  ·
   rw[List.take_of_length_le g3];exact af
end Go.Proofs.YtjolgbkkocjpgaaGreatDoor
