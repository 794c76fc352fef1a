/- What the code's plans ask of actions,as contracts. No condition. -/
import Derived.Test.YtcgdbhlnkificaaGreatDoorTLP
import Derived.Test.YtcgdbhlnkificaaGreatDoorTP
set_option linter.all false
namespace Go.Proofs.YtcgdbhlnkificaaGreatDoor
open Go.RowKit
set_option maxRecDepth 100000
set_option maxHeartbeats 32000000
def JA{σ:Nat->Option Nat}{ks:List AV}{n:Nat}{b v:Lb}{bs u:Fr}(hb:b=v)(h:bs=u):(b::Lb.map false ks (SV.cC σ (dV n))::bs)=v::Lb.map false ks (dV n)::u:=by rw[AK,rT,hb,h]
def mb(l:List Mem)(q:Nat):List Int:=(l.take q).map (·.act)
def G6{l:List Mem}{q:Nat}{x:Mem}(h:l[q]?=some x):cP (mb l q)++[.int .i64 x.act]=cP (mb l (q+1)):=by unfold mb cP;rw[List.take_add_one,h];simp
def G5{l:List Mem}(hr:ci Mem.act l=true){q:Nat}{x:Mem}(h:l[q]?=some x):((mb l q).any fun u=>decide (u=x.act))=false:=by
 rw[<- Bool.not_eq_true,List.any_eq_true];rintro⟨u,I,G⟩;rw[decide_eq_true_eq]at G;obtain⟨y,J,rfl⟩:=List.mem_map.1 I;obtain⟨j,z⟩:=List.mem_iff_getElem?.1 J
 have v:j <q:=by
  have:=(List.getElem?_eq_some_iff.1 z).1;rw[List.length_take]at this;omega
 rw[List.getElem?_take,if_pos v]at z;have D:=List.pairwise_iff_getElem.1 (tJ.1 hr) j q (List.getElem?_eq_some_iff.1 z).1 (List.getElem?_eq_some_iff.1 h).1 v;rw[(List.getElem?_eq_some_iff.1 z).2,(List.getElem?_eq_some_iff.1 h).2]at D;have D:y.act <x.act:=D;omega
def RD{L:Lck}{k:Int}:((mb L.mem L.mem.length).any fun u=>decide (u=k))=gL L k:=by unfold mb gL;rw[List.take_length,List.any_map];rfl
def MT{L:Lck}{k:Int}(y:L.mem.length<=140737488351232)(hr:ci Mem.act L.mem=true):Cl aj 73 [.t (.agg (jG L)),.t (.int .i64 k)] [] (.t (.bool (gL L k))) []:=by
 have v:=lG L.mem;rw[mw];refine Cl.ap rfl Tryz.func73 rfl rfl rfl ?_;refine aq ?_;refine az.c8 (fun q:Nat=>[(12,.t (.int .i64 (q:Int)))]) (fun q=>[.box false 80 (([.int .i64 L.a,.int .i64 L.b,.int .i64 L.pa,.int .i64 L.pb,.arr (cM L.mem)]:List AV).map .t),.map false (cP (mb L.mem q)) (dV q)]) (fun q=>q<=L.mem.length) (fun q=>L.mem.length - q) 0 rfl rfl (by omega) (fun q h1=>?_);rcases Nat.lt_or_ge q L.mem.length with h3|h3
 ·
  obtain⟨x,hx⟩:=am h3;have z:=i_ hx;have hf:=u6 (G5 hr hx);have hks:=G6 hx;have hvs:=w_ q
  repeat'(first
|((with_reducible apply aa.aF);(case hp=>exact ak))
|(refine aw ?_)
|((with_reducible apply aa.u0);(case hx=>first
|((with_reducible apply af.pT);(case hs=>exact fun _=>rfl);(case hm|ha|hk|hd|hy|hb=>exact rfl);(case hf=>exact hf);(case hks=>exact hks);(case hvs=>exact hvs);(case hfr=>exact leq))
|exact ae))
|fail)
  exact⟨q+1,rfl,JA rfl rfl,by omega,by omega⟩
 ·
  obtain rfl:q=L.mem.length:=by omega
  cases hp:gL L k with
  |true=>
   obtain⟨j,hf,u⟩:=CG (s:=k) (N:=mb L.mem L.mem.length) (by rw[RD];exact hp);have hz:=tX (n:=L.mem.length) (j:=j) (by unfold mb at u;simpa using u)
   repeat'(first
|((with_reducible apply aa.bk);(case hp=>exact ak))
|(refine aw ?_)
|((with_reducible apply aa.u0);(case hx=>first
|((with_reducible apply af.oC);(case hm|hk|ho=>exact rfl);(case hf=>exact hf);(case hz=>exact hz))
|exact ae))
|fail)
   exact⟨.inr rfl,rfl⟩
  |false=>
   have hf:=u6 (s:=k) (N:=mb L.mem L.mem.length) (by rw[RD];exact hp)
   repeat'(first
|((with_reducible apply aa.bk);(case hp=>exact ak))
|(refine aw ?_)
|((with_reducible apply aa.u0);(case hx=>first
|((with_reducible apply af.lk);(case hm|hk|ho=>exact rfl);(case hf=>exact hf);(case hz=>exact rfl))
|exact ae))
|fail)
   exact⟨.inr rfl,rfl⟩
def MS(x:Mem)(k:Int):Cl aj 113 [.t (.agg (g_ x)),.t (.tp [.int .i64 k])] [] (.t (.bool (decide (x.act=k)))) []:=by
 rw[tw];refine Cl.ap rfl Tryz.func113 rfl rfl rfl ?_;by_cases u:x.act=k
 ·
  rw[decide_eq_true u];exact ah
 ·
  rw[decide_eq_false u];exact ah
def MR{p:Pln}{k:Int}(hl:p.places.length<=140737488351232):Cl aj 72 [.t (a_ p),.t (.int .i64 k)] [] (.t (.bool (h_ p k))) []:=by
 have u:=Iq (C:=p.places) (p:=fun x=>decide (x.act=k)) (c1:=.tp [.int .i64 k]) hl (fun x _=>MS x k);unfold a_ h_;rw[bK];generalize(p.places.any fun x=>decide (x.act=k))=b at*
 refine Cl.ap rfl Tryz.func72 rfl rfl rfl ?_;exact ah
def M3{m:Md}{L:Lck}{k:Int}(hm:bx m)(hk:b9 m k=true):Cl aj 75 [.t (bN m),.t (.agg (jG L)),.t (.int .i64 k)] [] (.t (.bool (decide (L.a=L.b)||decide (bh m k=L.b)))) []:=by
 have z:=jl m.ax;have D:=hm.ax;obtain⟨G,h1⟩:=jB.1 hk;obtain⟨a,u⟩:=am (xs:=m.ax) (k:=k.toNat) (by omega);have I:=fF u;rw[kT u,mw,aZ];refine Cl.ap rfl Tryz.func75 rfl rfl rfl ?_;by_cases y:L.a=L.b
 ·
  rw[decide_eq_true y];exact ah
 ·
  rw[decide_eq_false y];by_cases v:a.op=L.b
  ·
   rw[decide_eq_true v];exact ah
  ·
   rw[decide_eq_false v];exact ah
def Bd{m:Md}{k:Int}(h:b6 m=true)(hk:b9 m k=true){i:Int}(hi:0<=i)(hl:i <(dZ m (bh m k)).ao.length):(m.ax.getD k.toNat fD).args[i.toNat]?=some (lc m k i):=by
 have u:=uu h (qp hk);unfold dk at u;simp only[Bool.and_eq_true,decide_eq_true_eq]at u;have v:=u.1.1.2;unfold lc;exact getD_some (by unfold dZ bh at hl;omega)
def Mz{m:Md}{L:Lck}{k:Int}(hm:bx m)(hv:b6 m=true)(hL:iQ m L)(hp:gL L k=true):Cl aj 74 [.t (bN m),.t (.agg (jG L)),.t (.int .i64 k)] [] (.t (.int .i64 (j9 m L k))) []:=by
 have ab:=jl m.ax;have ag:=hm.ax;obtain⟨J,ho⟩:=hL.part hp;obtain⟨h0,h1⟩:=jB.1 J;have U:=qp J;obtain⟨a,u⟩:∃a,m.ax.getD k.toNat fD=a:=⟨_,rfl⟩;rw[u]at U;have hc:=fF U;have I:bh m k=a.op:=kT U;have ad:=aW a.args;unfold j9;rw[mw,aZ];rcases hL.tE with⟨p1,p2⟩|⟨⟨p1,V⟩,⟨p2,Z⟩,_⟩
 ·
  rw[if_pos (by omega)];refine Cl.ap rfl Tryz.func74 rfl rfl rfl ?_;exact ah
 ·
  rw[if_neg (by omega)];by_cases D:bh m k=L.a
  ·
   rw[if_pos D];have G:=Bd hv J (i:=L.pa) p1 (by rw[D];exact V);rw[u]at G;have y:=bg G;rw[I]at D;obtain⟨v,z⟩:∃v,lc m k L.pa=v:=⟨_,rfl⟩;rw[z]at y⊢;refine Cl.ap rfl Tryz.func74 rfl rfl rfl ?_;exact ah
  ·
   rw[if_neg D];have hb:bh m k=L.b:=by omega
   have G:=Bd hv J (i:=L.pb) p2 (by rw[hb];exact Z);rw[u]at G;have y:=bg G;rw[I]at D;obtain⟨v,z⟩:∃v,lc m k L.pb=v:=⟨_,rfl⟩;rw[z]at y⊢;refine Cl.ap rfl Tryz.func74 rfl rfl rfl ?_
   repeat'(first
|((with_reducible apply aa.bk);(case hp=>exact ak))
|(refine aw ?_)
|((with_reducible apply aa.u0);(case hx=>exact ae))
|fail)
   exact⟨.inr rfl,rfl⟩
structure PW (m:Md) (p:Pln):Prop where
 md:bx m
 ef:∀a∈m.ax,jj a.eff
 op:m.ops.length<=4398046511104
 pl:nO p
def PW.v{m:Md}{p:Pln}(h:PW m p):Cl aj 27 [.t (bN m),.t (a_ p)] [] (.t (.bool (cy m p))) []:=M2 h.md h.ef h.op h.pl
def yL{p:Pln}{i:Int}(h0:0<=i)(h1:i <p.aA.length):p.aA[i.toNat]?=some (ox p i):=getD_some (by omega)
def Dm{m:Md}{p:Pln}{i:Int}(hv:cy m p=true)(h0:0<=i)(h1:i <p.aA.length):iQ m (ox p i):=lE.1 ((kU.1 hv).lock _ (List.mem_of_getElem? (yL h0 h1)))
def vj{p:Pln}{i:Int}:q6 p i=true↔0<=i/\i <p.aA.length:=by
 unfold q6;simp only[Bool.and_eq_true,decide_eq_true_eq]
def Ej{m:Md}(h:b6 m=true):∀o∈m.ops,dT m o=true:=by
 unfold b6 nP at h;simp only[Bool.and_eq_true]at h;exact List.all_eq_true.1 h.2.2.1.1.1
def eu(m:Md)(p:Pln)(i:Int):Int:=if cy m p&&q6 p i then n9 m (ox p i)else 0
def zw{m:Md}{p:Pln}{i:Int}(h:PW m p):Cl aj 37 [.t (bN m),.t (a_ p),.t (.int .i64 i)] [] (.t (.int .i64 (eu m p i))) []:=by
 have u:=h.v;have al:=kP p.aA;have ad:=h.pl.aA;have an:=aW m.ao;have ag:=h.md.ao;unfold eu;by_cases z:cy m p=true/\0<=i/\i <p.aA.length
 ·
  obtain⟨D,G,h1⟩:=z;have J:=(kU.1 D).lH;rw[if_pos (by rw[D,vj.2 ⟨G,h1⟩];rfl)];have Z:=yL G h1;have y:=Dm D G h1;obtain⟨L,I⟩:∃L,ox p i=L:=⟨_,rfl⟩;rw[I]at Z y⊢;have hc:=nw Z;rw[D]at u;unfold n9;have ks:=zB (o:=L.a) (k:=L.pa) h.md y.a0 (by have:=y.ab;have:=y.b;omega);rcases y.tE with⟨p1,p2⟩|⟨⟨p1,U⟩,_,_,p4,V⟩
  ·
   rw[if_pos (by omega)];unfold a_ at u⊢;rw[aZ,bK]at u⊢;refine Cl.ap rfl Tryz.func37 rfl rfl rfl ?_;exact ah
  ·
   rw[if_neg (by omega)];obtain⟨o,ho⟩:=am (xs:=m.ops) (k:=L.a.toNat) (by have:=y.a0;have:=y.ab;have:=y.b;omega);rw[ry ho]at U p4 V;obtain⟨s,hs⟩:=am (xs:=o.ao) (k:=L.pa.toNat) (by omega);have ax:=vT (Ej J o (List.mem_of_getElem? ho)) hs;rw[List.getD_eq_getElem?_getD,hs,Option.getD_some]at p4 V;rw[V]at ks⊢;obtain⟨n,z⟩:=am (xs:=m.ao) (k:=s.toNat) (by omega);have au:=bg z;rw[List.getD_eq_getElem?_getD,z,Option.getD_some];unfold a_ at u⊢;rw[aZ]at ks u⊢;rw[bK]at u⊢;refine Cl.ap rfl Tryz.func37 rfl rfl rfl ?_;exact ah
 ·
  have hf:(cy m p&&q6 p i)=false:=by
   rw[<- Bool.not_eq_true,Bool.and_eq_true,vj];exact z
  rw[hf,if_neg (by decide)];obtain⟨b,hb⟩:∃b,cy m p=b:=⟨_,rfl⟩;rw[hb]at u z;unfold a_ at u⊢;rw[aZ,bK]at u⊢;refine Cl.ap rfl Tryz.func37 rfl rfl rfl ?_
  cases b with
  |false=>
   exact ah
  |true=>
   repeat'(first
|((with_reducible apply aa.bi)<;>intro hq)
|(refine aw ?_)
|((with_reducible apply aa.av);(case hW=>exact rfl);(case hx=>exact ae))
|((with_reducible apply aa.u0);(case hx=>first
|(exact ai u)
|exact ae))
|fail)
   all_goals first
    |exact⟨.inr rfl,rfl⟩
    |(exfalso;apply z;refine⟨rfl,?_,?_⟩<;>omega)
end Go.Proofs.YtcgdbhlnkificaaGreatDoor
