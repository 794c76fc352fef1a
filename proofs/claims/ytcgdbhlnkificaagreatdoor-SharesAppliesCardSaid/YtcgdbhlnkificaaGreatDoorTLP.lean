/- The code's plans: numbers that rise. No condition. -/
import Derived.Test.YtcgdbhlnkificaaGreatDoorTLB
import Derived.Test.YtcgdbhlnkificaaGreatDoorTLD
import Derived.Test.YtcgdbhlnkificaaGreatDoorTP
set_option linter.all false
namespace Go.Proofs.YtcgdbhlnkificaaGreatDoor
open Go.RowKit
set_option maxRecDepth 100000
set_option maxHeartbeats 16000000
def fQ{α:Type}(f:α->Int)(l:List α)(i:Nat)(x:α):Bool:=decide (i=0)||match l[i - 1]? with
 |some y=>decide (f y <f x)
 |none=>false
def vY{α:Type}(f:α->Int)(l:List α):ci f l=aK (fQ f l) (0+1) (l.drop (0+1)):=by
 cases l with
 |nil=>rfl
 |cons x l=>rfl
def vX{α:Type}{f:α->Int}{l:List α}{p:Nat}{x y:α}(hy:l[p]?=some y):fQ f l (p+1) x=decide (f y <f x):=by
 unfold fQ;rw[Nat.add_sub_cancel,hy];rfl
def Nw{C:List bM}{f:bM->Int}(hl:C.length<=140737488351232)(hp:∀x∈C,Cl aj 60 [.t (.agg (qK x))] [] (.t (.int .i64 (f x))) []):Cl aj 59 [.t (.arr (gJ C)),.t (.fn (.func 60) 0 [])] [] (.t (.bool (ci f C))) []:=by
 have ab:=sF C;rw[vY];refine Cl.ap rfl Tryz.func59 rfl rfl rfl ?_;refine aq ?_;refine az.ind (fun p:Nat=>[(5,.t (.int .i64 ((p+1:Nat):Int)))]) (fun p=>(p=0\/p+1<=C.length)/\aK (fQ f C) (0+1) (C.drop (0+1))=aK (fQ f C) (p+1) (C.drop (p+1))) (fun p=>C.length - p) 0 rfl ⟨.inl rfl,rfl⟩ (fun p hq=>?_);obtain⟨h1,h2⟩:=hq;rw[h2];rcases Nat.lt_or_ge (p+1) C.length with h3|h3
 ·
  obtain⟨x,D⟩:=am h3;obtain⟨y,J⟩:=am (xs:=C) (k:=p) (by omega);have hc:=sE D;have hd:=sE J;have Z:(gJ C)[(((p+1:Nat):Int) - 1).toNat]?=some [.int .i64 y.bu,.int .i64 y.s.e,.int .i64 y.s.f,.bool y.s.hold,.int .i64 y.s.idx,aD y.s.st]:=by rw[show(((p+1:Nat):Int) - 1).toNat=p by omega];exact hd
  have G:=hp x (List.mem_of_getElem? D);have I:=hp y (List.mem_of_getElem? J);have u:=dl (p:=fQ f C) D;have v:=dm (p:=fQ f C) D;rw[vX J,decide_eq_true_eq]at u v;obtain⟨a,U⟩:∃a,f x=a:=⟨_,rfl⟩;obtain⟨b,V⟩:∃b,f y=b:=⟨_,rfl⟩;rw[U]at G u v;rw[V]at I u v;by_cases z:b <a
  ·
   refine aq ?_;exact⟨p+1,rfl,rfl,⟨.inr (by omega),v z⟩,by omega⟩
  ·
   rw[u z];exact ah
 ·
  rw[cL h3];exact ah
def Ny{C:List Lck}{f:Lck->Int}(hl:C.length<=140737488351232)(hp:∀x∈C,Cl aj 62 [.t (.agg (jG x))] [] (.t (.int .i64 (f x))) []):Cl aj 61 [.t (.arr (fM C)),.t (.fn (.func 62) 0 [])] [] (.t (.bool (ci f C))) []:=by
 have ab:=kP C;rw[vY];refine Cl.ap rfl Tryz.func61 rfl rfl rfl ?_;refine aq ?_;refine az.ind (fun p:Nat=>[(5,.t (.int .i64 ((p+1:Nat):Int)))]) (fun p=>(p=0\/p+1<=C.length)/\aK (fQ f C) (0+1) (C.drop (0+1))=aK (fQ f C) (p+1) (C.drop (p+1))) (fun p=>C.length - p) 0 rfl ⟨.inl rfl,rfl⟩ (fun p hq=>?_);obtain⟨h1,h2⟩:=hq;rw[h2];rcases Nat.lt_or_ge (p+1) C.length with h3|h3
 ·
  obtain⟨x,D⟩:=am h3;obtain⟨y,J⟩:=am (xs:=C) (k:=p) (by omega);have hc:=nw D;have hd:=nw J;have Z:(fM C)[(((p+1:Nat):Int) - 1).toNat]?=some [.int .i64 y.a,.int .i64 y.b,.int .i64 y.pa,.int .i64 y.pb,.arr (cM y.mem)]:=by rw[show(((p+1:Nat):Int) - 1).toNat=p by omega];exact hd
  have G:=hp x (List.mem_of_getElem? D);have I:=hp y (List.mem_of_getElem? J);have u:=dl (p:=fQ f C) D;have v:=dm (p:=fQ f C) D;rw[vX J,decide_eq_true_eq]at u v;obtain⟨a,U⟩:∃a,f x=a:=⟨_,rfl⟩;obtain⟨b,V⟩:∃b,f y=b:=⟨_,rfl⟩;rw[U]at G u v;rw[V]at I u v;by_cases z:b <a
  ·
   refine aq ?_;exact⟨p+1,rfl,rfl,⟨.inr (by omega),v z⟩,by omega⟩
  ·
   rw[u z];exact ah
 ·
  rw[cL h3];exact ah
def EO{C:List Mem}{f:Mem->Int}(hl:C.length<=140737488351232)(hp:∀x∈C,Cl aj 107 [.t (.agg (g_ x))] [] (.t (.int .i64 (f x))) []):Cl aj 106 [.t (.arr (cM C)),.t (.fn (.func 107) 0 [])] [] (.t (.bool (ci f C))) []:=by
 have ab:=lG C;rw[vY];refine Cl.ap rfl Tryz.func106 rfl rfl rfl ?_;refine aq ?_;refine az.ind (fun p:Nat=>[(5,.t (.int .i64 ((p+1:Nat):Int)))]) (fun p=>(p=0\/p+1<=C.length)/\aK (fQ f C) (0+1) (C.drop (0+1))=aK (fQ f C) (p+1) (C.drop (p+1))) (fun p=>C.length - p) 0 rfl ⟨.inl rfl,rfl⟩ (fun p hq=>?_);obtain⟨h1,h2⟩:=hq;rw[h2];rcases Nat.lt_or_ge (p+1) C.length with h3|h3
 ·
  obtain⟨x,D⟩:=am h3;obtain⟨y,J⟩:=am (xs:=C) (k:=p) (by omega);have hc:=i_ D;have hd:=i_ J;have Z:(cM C)[(((p+1:Nat):Int) - 1).toNat]?=some [.int .i64 y.act,.int .i64 y.s.e,.int .i64 y.s.f,.bool y.s.hold,.int .i64 y.s.idx,aD y.s.st]:=by rw[show(((p+1:Nat):Int) - 1).toNat=p by omega];exact hd
  have G:=hp x (List.mem_of_getElem? D);have I:=hp y (List.mem_of_getElem? J);have u:=dl (p:=fQ f C) D;have v:=dm (p:=fQ f C) D;rw[vX J,decide_eq_true_eq]at u v;obtain⟨a,U⟩:∃a,f x=a:=⟨_,rfl⟩;obtain⟨b,V⟩:∃b,f y=b:=⟨_,rfl⟩;rw[U]at G u v;rw[V]at I u v;by_cases z:b <a
  ·
   refine aq ?_;exact⟨p+1,rfl,rfl,⟨.inr (by omega),v z⟩,by omega⟩
  ·
   rw[u z];exact ah
 ·
  rw[cL h3];exact ah
def Nx{C:List Int}{f:Int->Int}(hl:C.length<=140737488351232)(hp:∀x∈C,Cl aj 65 [.t (.int .i64 x)] [] (.t (.int .i64 (f x))) []):Cl aj 64 [.t (aD C),.t (.fn (.func 65) 0 [])] [] (.t (.bool (ci f C))) []:=by
 have ab:=aW C;rw[vY];refine Cl.ap rfl Tryz.func64 rfl rfl rfl ?_;refine aq ?_;refine az.ind (fun p:Nat=>[(5,.t (.int .i64 ((p+1:Nat):Int)))]) (fun p=>(p=0\/p+1<=C.length)/\aK (fQ f C) (0+1) (C.drop (0+1))=aK (fQ f C) (p+1) (C.drop (p+1))) (fun p=>C.length - p) 0 rfl ⟨.inl rfl,rfl⟩ (fun p hq=>?_);obtain⟨h1,h2⟩:=hq;rw[h2];rcases Nat.lt_or_ge (p+1) C.length with h3|h3
 ·
  obtain⟨x,D⟩:=am h3;obtain⟨y,J⟩:=am (xs:=C) (k:=p) (by omega);have hc:=bg D;have hd:=bg J;have Z:(aL C)[(((p+1:Nat):Int) - 1).toNat]?=some [.int .i64 y]:=by rw[show(((p+1:Nat):Int) - 1).toNat=p by omega];exact hd
  have G:=hp x (List.mem_of_getElem? D);have I:=hp y (List.mem_of_getElem? J);have u:=dl (p:=fQ f C) D;have v:=dm (p:=fQ f C) D;rw[vX J,decide_eq_true_eq]at u v;obtain⟨a,U⟩:∃a,f x=a:=⟨_,rfl⟩;obtain⟨b,V⟩:∃b,f y=b:=⟨_,rfl⟩;rw[U]at G u v;rw[V]at I u v;by_cases z:b <a
  ·
   refine aq ?_;exact⟨p+1,rfl,rfl,⟨.inr (by omega),v z⟩,by omega⟩
  ·
   rw[u z];exact ah
 ·
  rw[cL h3];exact ah
def tw(x:Mem):g_ x=[.int .i64 x.act,.int .i64 x.s.e,.int .i64 x.s.f,.bool x.s.hold,.int .i64 x.s.idx,aD x.s.st]:=rfl
def I4(x:bM):qK x=[.int .i64 x.bu,.int .i64 x.s.e,.int .i64 x.s.f,.bool x.s.hold,.int .i64 x.s.idx,aD x.s.st]:=rfl
def mw(x:Lck):jG x=[.int .i64 x.a,.int .i64 x.b,.int .i64 x.pa,.int .i64 x.pb,.arr (cM x.mem)]:=rfl
def oD(m:Md):gm m=[aD m.ao,.arr (bC m.tables),.arr (cq m.bH),.arr (fk m.cons),.arr (fv m.ops),.arr (eg m.ax),.arr (c7 m.aG)]:=rfl
def bK(p:Pln):tF p=[.arr (gJ p.aM),.arr (fM p.aA),.arr (cM p.places),aD p.bj]:=rfl
def Eu(x:Mem):Cl aj 107 [.t (.agg (g_ x))] [] (.t (.int .i64 x.act)) []:=by
 rw[tw];refine Cl.ap rfl Tryz.func107 rfl rfl rfl ?_;exact ah
def My(x:bM):Cl aj 60 [.t (.agg (qK x))] [] (.t (.int .i64 x.bu)) []:=by
 rw[I4];refine Cl.ap rfl Tryz.func60 rfl rfl rfl ?_;exact ah
def MH{x:Lck}(h:(0<=x.a/\x.a<=1000000)/\(0<=x.b/\x.b<=1000000)):Cl aj 62 [.t (.agg (jG x))] [] (.t (.int .i64 (jI x))) []:=by
 unfold jI;rw[mw];refine Cl.ap rfl Tryz.func62 rfl rfl rfl ?_;exact ah
def MB(x:Int):Cl aj 65 [.t (.int .i64 x)] [] (.t (.int .i64 (id x))) []:=by
 refine Cl.ap rfl Tryz.func65 rfl rfl rfl ?_;exact ah
def Ez{m:Md}(hm:bx m)(o:Int):Cl aj 58 [.t (.int .i64 o),.t (.tp (gm m))] [] (.t (.bool (eP m o))) []:=by
 have D:=mB m.ops;have G:=hm.ops;unfold eP;rw[oD];refine Cl.ap rfl Tryz.func58 rfl rfl rfl ?_;by_cases h:0<=o/\o <m.ops.length
 ·
  obtain⟨v,h1⟩:=h;obtain⟨x,hx⟩:=am (xs:=m.ops) (k:=o.toNat) (by omega);have z:=nz hx;have e:dZ m o=x:=by unfold dZ;rw[List.getD_eq_getElem?_getD,hx];rfl
  rw[e,decide_eq_true v,decide_eq_true h1,Bool.true_and,Bool.true_and];obtain⟨b,y⟩:∃b,x.ord=b:=⟨_,rfl⟩;rw[y]at z⊢
  cases b with
  |true=>
   exact ah
  |false=>
   exact ah
 ·
  have u:(decide (0<=o)&&decide (o <(m.ops.length:Int)))=false:=by
   rw[<- Bool.not_eq_true,Bool.and_eq_true,decide_eq_true_eq,decide_eq_true_eq];exact h
  rw[u,Bool.false_and]
  repeat'(first
|((with_reducible apply aa.c_);(case hp=>exact ak))
|((with_reducible apply aa.aX)<;>intro I)
|(refine aw ?_)
|((with_reducible apply aa.av);(case hW=>exact rfl);(case hx=>exact ae))
|((with_reducible apply aa.u0);(case hx=>exact ae))
|fail)
  all_goals first
   |exact⟨.inr rfl,rfl⟩
   |(exfalso;apply h;constructor <;>omega)
def MG(L:Lck)(o:Int):Cl aj 105 [.t (.int .i64 o),.t (.tp (jG L))] [] (.t (.bool (decide (o=L.a)||decide (o=L.b)))) []:=by
 rw[mw];refine Cl.ap rfl Tryz.func105 rfl rfl rfl ?_;exact ah
def kT{m:Md}{k:Int}{a:eF}(h:m.ax[k.toNat]?=some a):bh m k=a.op:=by unfold bh;rw[List.getD_eq_getElem?_getD,h];rfl
def MK{m:Md}{fit:Int->Bool}{cap:AV}{x:Mem}(hm:bx m)(hf:b9 m x.act=true->Cl aj 105 [.t (.int .i64 (bh m x.act)),.t cap] [] (.t (.bool (fit (bh m x.act)))) []):Cl aj 108 [.t (.agg (g_ x)),.t (.tp (gm m)),.t (.tp [.fn (.func 105) 0 [cap]])] [] (.t (.bool (!(b9 m x.act&&fit (bh m x.act))))) []:=by
 have G:=jl m.ax;have I:=hm.ax;have u:=jB (m:=m) (k:=x.act);obtain⟨J,v⟩:∃b,b9 m x.act=b:=⟨_,rfl⟩;rw[v]at hf u⊢;rw[tw,oD];refine Cl.ap rfl Tryz.func108 rfl rfl rfl ?_
 cases J with
 |true=>
  obtain⟨U,h1⟩:=u.1 rfl;obtain⟨a,z⟩:=am (xs:=m.ax) (k:=x.act.toNat) (by omega);have V:=fF z;have hf:=hf rfl;rw[kT z]at hf⊢;obtain⟨b,D⟩:∃b,fit a.op=b:=⟨_,rfl⟩;rw[D]at hf⊢;exact ah
 |false=>
  have y:¬(0<=x.act/\x.act <m.ax.length):=fun h=>by have:=u.2 h;cases this
  rw[Bool.false_and]
  repeat'(first
|((with_reducible apply aa.cj);(case hp=>exact ak))
|((with_reducible apply aa.aX)<;>intro Z)
|(refine aw ?_)
|((with_reducible apply aa.av);(case hW=>exact rfl);(case hx=>exact ae))
|((with_reducible apply aa.u0);(case hx=>exact ae))
|fail)
  all_goals first
   |exact⟨.inr rfl,rfl⟩
   |(exfalso;apply y;constructor <;>omega)
def MM{m:Md}{fit:Int->Bool}{cap:AV}{C:List Mem}(hm:bx m)(hl:C.length<=140737488351232)(hf:∀x∈C,b9 m x.act=true->Cl aj 105 [.t (.int .i64 (bh m x.act)),.t cap] [] (.t (.bool (fit (bh m x.act)))) []):Cl aj 63 [.t (bN m),.t (.arr (cM C)),.t (.fn (.func 105) 0 [cap])] [] (.t (.bool (gp m fit C))) []:=by
 have G:=EO (f:=Mem.act) hl (fun x _=>Eu x);have u:=BS (p:=fun x=>!(b9 m x.act&&fit (bh m x.act))) (c1:=.tp (gm m)) (c2:=.tp [.fn (.func 105) 0 [cap]]) hl (fun x D=>MK hm (hf x D));have v:gp m fit C=(ci Mem.act C&&!(C.any fun x=>!(b9 m x.act&&fit (bh m x.act)))):=by unfold gp;rw[qv]
 rw[v];obtain⟨r,z⟩:∃r,ci Mem.act C=r:=⟨_,rfl⟩;obtain⟨b,y⟩:∃b,(C.any fun x=>!(b9 m x.act&&fit (bh m x.act)))=b:=⟨_,rfl⟩;rw[z]at G⊢;rw[y]at u⊢;rw[oD]at u;rw[aZ];refine Cl.ap rfl Tryz.func63 rfl rfl rfl ?_
 cases r with
 |true=>
  exact ah
 |false=>
  exact ah
def ML{m:Md}{fit:Int->Bool}{cap:AV}{x:Mem}(hm:bx m)(hf:b9 m x.act=true->Cl aj 58 [.t (.int .i64 (bh m x.act)),.t cap] [] (.t (.bool (fit (bh m x.act)))) []):Cl aj 108 [.t (.agg (g_ x)),.t (.tp (gm m)),.t (.tp [.fn (.func 58) 0 [cap]])] [] (.t (.bool (!(b9 m x.act&&fit (bh m x.act))))) []:=by
 have G:=jl m.ax;have I:=hm.ax;have u:=jB (m:=m) (k:=x.act);obtain⟨J,v⟩:∃b,b9 m x.act=b:=⟨_,rfl⟩;rw[v]at hf u⊢;rw[tw,oD];refine Cl.ap rfl Tryz.func108 rfl rfl rfl ?_
 cases J with
 |true=>
  obtain⟨U,h1⟩:=u.1 rfl;obtain⟨a,z⟩:=am (xs:=m.ax) (k:=x.act.toNat) (by omega);have V:=fF z;have hf:=hf rfl;rw[kT z]at hf⊢;obtain⟨b,D⟩:∃b,fit a.op=b:=⟨_,rfl⟩;rw[D]at hf⊢;exact ah
 |false=>
  have y:¬(0<=x.act/\x.act <m.ax.length):=fun h=>by have:=u.2 h;cases this
  rw[Bool.false_and]
  repeat'(first
|((with_reducible apply aa.cj);(case hp=>exact ak))
|((with_reducible apply aa.aX)<;>intro Z)
|(refine aw ?_)
|((with_reducible apply aa.av);(case hW=>exact rfl);(case hx=>exact ae))
|((with_reducible apply aa.u0);(case hx=>exact ae))
|fail)
  all_goals first
   |exact⟨.inr rfl,rfl⟩
   |(exfalso;apply y;constructor <;>omega)
def MN{m:Md}{fit:Int->Bool}{cap:AV}{C:List Mem}(hm:bx m)(hl:C.length<=140737488351232)(hf:∀x∈C,b9 m x.act=true->Cl aj 58 [.t (.int .i64 (bh m x.act)),.t cap] [] (.t (.bool (fit (bh m x.act)))) []):Cl aj 63 [.t (bN m),.t (.arr (cM C)),.t (.fn (.func 58) 0 [cap])] [] (.t (.bool (gp m fit C))) []:=by
 have G:=EO (f:=Mem.act) hl (fun x _=>Eu x);have u:=BS (p:=fun x=>!(b9 m x.act&&fit (bh m x.act))) (c1:=.tp (gm m)) (c2:=.tp [.fn (.func 58) 0 [cap]]) hl (fun x D=>ML hm (hf x D));have v:gp m fit C=(ci Mem.act C&&!(C.any fun x=>!(b9 m x.act&&fit (bh m x.act)))):=by unfold gp;rw[qv]
 rw[v];obtain⟨r,z⟩:∃r,ci Mem.act C=r:=⟨_,rfl⟩;obtain⟨b,y⟩:∃b,(C.any fun x=>!(b9 m x.act&&fit (bh m x.act)))=b:=⟨_,rfl⟩;rw[z]at G⊢;rw[y]at u⊢;rw[oD]at u;rw[aZ];refine Cl.ap rfl Tryz.func63 rfl rfl rfl ?_
 cases r with
 |true=>
  exact ah
 |false=>
  exact ah
set_option maxHeartbeats 32000000
def ry{m:Md}{o:Int}{x:fX}(h:m.ops[o.toNat]?=some x):dZ m o=x:=by unfold dZ;rw[List.getD_eq_getElem?_getD,h];rfl
def zB{m:Md}{o k:Int}(hm:bx m)(h0:0<=o)(h1:o <m.ops.length):Cl aj 84 [.t (bN m),.t (.int .i64 o),.t (.int .i64 k)] [] (.t (.int .i64 (gz m o k))) []:=by
 have u:=mB m.ops;have y:=hm.ops;obtain⟨x,hx⟩:=am (xs:=m.ops) (k:=o.toNat) (by omega);have G:=nz hx;have D:=hm.rA x (List.mem_of_getElem? hx);have v:=aW x.ao;unfold gz;rw[ry hx];rw[aZ];refine Cl.ap rfl Tryz.func84 rfl rfl rfl ?_;by_cases h:0<=k/\k <x.ao.length
 ·
  rw[if_pos h];obtain⟨J,U⟩:=h;obtain⟨s,hs⟩:=am (xs:=x.ao) (k:=k.toNat) (by omega);have z:=bg hs;rw[List.getD_eq_getElem?_getD,hs,Option.getD_some];exact ah
 ·
  rw[if_neg h]
  repeat'(first
|((with_reducible apply aa.cj);(case hp=>exact ak))
|((with_reducible apply aa.aX)<;>intro I)
|(refine aw ?_)
|((with_reducible apply aa.av);(case hW=>exact rfl);(case hx=>exact ae))
|((with_reducible apply aa.u0);(case hx=>exact ae))
|fail)
  all_goals first
   |exact⟨.inr rfl,rfl⟩
   |(exfalso;apply h;constructor <;>omega)
def Ew{m:Md}{L:Lck}(h:¬(L.pa= -1/\L.pb= -1)):jL m L=true↔0<=gz m L.a L.pa/\gz m L.a L.pa=gz m L.b L.pb/\(L.a=L.b->L.pa=L.pb):=by
 unfold jL
 have h1:(decide (L.pa= -1)&&decide (L.pb= -1))=false:=by
  rw[<- Bool.not_eq_true,Bool.and_eq_true,decide_eq_true_eq,decide_eq_true_eq];exact h
 rw[h1,Bool.false_or];simp only[Bool.and_eq_true,Bool.or_eq_true,Bool.not_eq_true',decide_eq_true_eq,decide_eq_false_iff_not];constructor
 ·rintro⟨a,b,c⟩;exact⟨a,b,fun e=>c.resolve_left fun h=>h e⟩
 ·rintro⟨a,b,c⟩;refine⟨a,b,?_⟩;by_cases e:L.a=L.b
  ·exact .inr (c e)
  ·exact .inl e
def MI{m:Md}{L:Lck}(hm:bx m)(hL:L.mem.length<=140737488351232):Cl aj 57 [.t (bN m),.t (.agg (jG L))] [] (.t (.bool (dh m L))) []:=by
 have G:=MM (C:=L.mem) (fit:=fun o=>decide (o=L.a)||decide (o=L.b)) (cap:=.tp (jG L)) hm hL (fun x _ _=>MG L _);have an:=mB m.ops;have ao:=hm.ops;obtain⟨M,hM⟩:∃b,gp m (fun o=>decide (o=L.a)||decide (o=L.b)) L.mem=b:=⟨_,rfl⟩;have e0:dh m L=((decide (0<=L.a)&&(decide (L.a<=L.b)&&decide (L.b <m.ops.length)))&&(jL m L&&M)):=by unfold dh;rw[hM]
 rw[hM]at G;rw[e0];have y:=fun D h1=>zB (o:=L.a) (k:=L.pa) hm D h1;have z:=fun D h1=>zB (o:=L.b) (k:=L.pb) hm D h1;rw[aZ]at G y z⊢;rw[mw]at G⊢;refine Cl.ap rfl Tryz.func57 rfl rfl rfl ?_;by_cases h:(0<=L.a/\L.a<=L.b)/\L.b <m.ops.length
 ·
  obtain⟨⟨D,h1⟩,h2⟩:=h;rw[decide_eq_true D,decide_eq_true h1,decide_eq_true h2,Bool.true_and,Bool.true_and,Bool.true_and];have y:=y D (by omega);have z:=z (by omega) h2;by_cases hp:L.pa= -1/\L.pb= -1
  ·
   obtain⟨ab,ad⟩:=hp;have al:jL m L=true:=by unfold jL;rw[decide_eq_true ab,decide_eq_true ad];rfl
   rw[al,Bool.true_and];exact ah
  ·
   have v:=Ew (m:=m) hp;obtain⟨S1,J⟩:∃s,gz m L.a L.pa=s:=⟨_,rfl⟩;obtain⟨S2,U⟩:∃s,gz m L.b L.pb=s:=⟨_,rfl⟩;rw[J]at y v;rw[U]at z v;by_cases u:0<=S1/\S1=S2/\(L.a=L.b->L.pa=L.pb)
   ·
    rw[v.2 u,Bool.true_and];obtain⟨q1,q2,q3⟩:=u;by_cases V:L.a=L.b
    ·
     have q4:=q3 V
     repeat'(first
|(refine a8 ?_)
|(refine aw ?_)
|((with_reducible apply aa.av);(case hW=>exact rfl);(case hx=>first
|(exact ai z)
|exact ae))
|((with_reducible apply aa.u0);(case hx=>first
|(exact ai y)
|(exact ai G)
|exact ae))
|fail)
     all_goals first
      |exact⟨.inr rfl,rfl⟩
      |(exfalso;apply hp;constructor <;>omega)
    ·
     repeat'(first
|(refine a8 ?_)
|((with_reducible apply aa.gA)<;>intro u)
|(refine aw ?_)
|((with_reducible apply aa.av);(case hW=>exact rfl);(case hx=>first
|(exact ai z)
|exact ae))
|((with_reducible apply aa.u0);(case hx=>first
|(exact ai y)
|(exact ai G)
|exact ae))
|fail)
     all_goals first
      |exact⟨.inr rfl,rfl⟩
      |(exfalso;apply hp;constructor <;>omega)
   ·
    have ag:jL m L=false:=by rw[<- Bool.not_eq_true,v];exact u
    rw[ag,Bool.false_and]
    repeat'(first
|(refine a8 ?_)
|((with_reducible apply aa.aX)<;>intro u)
|((with_reducible apply aa.gA)<;>intro u)
|((with_reducible apply aa.fz)<;>intro u)
|(refine aw ?_)
|((with_reducible apply aa.av);(case hW=>exact rfl);(case hx=>first
|(exact ai z)
|exact ae))
|((with_reducible apply aa.u0);(case hx=>first
|(exact ai y)
|exact ae))
|fail)
    all_goals first
     |exact⟨.inr rfl,rfl⟩
     |(exfalso;apply hp;constructor <;>omega)
     |(exfalso;apply u;refine⟨by omega,by omega,fun _=>by omega⟩)
 ·
  have Z:(decide (0<=L.a)&&(decide (L.a<=L.b)&&decide (L.b <(m.ops.length:Int))))=false:=by
   rw[<- Bool.not_eq_true,Bool.and_eq_true,Bool.and_eq_true,decide_eq_true_eq,decide_eq_true_eq,decide_eq_true_eq];exact fun I=>h ⟨⟨I.1,I.2.1⟩,I.2.2⟩
  rw[Z,Bool.false_and]
  repeat'(first
|((with_reducible apply aa.cj);(case hp=>exact ak))
|((with_reducible apply aa.aX)<;>intro u)
|((with_reducible apply aa.bi)<;>intro u)
|(refine aw ?_)
|((with_reducible apply aa.av);(case hW=>exact rfl);(case hx=>exact ae))
|((with_reducible apply aa.u0);(case hx=>exact ae))
|fail)
  all_goals first
   |exact⟨.inr rfl,rfl⟩
   |(exfalso;apply h;refine⟨⟨?_,?_⟩,?_⟩<;>omega)
def M0{m:Md}{x:Mem}{o:Int}(hm:bx m)(hi:b9 m x.act=true):Cl aj 68 [.t (.agg (g_ x)),.t (.tp (gm m)),.t (.tp [.int .i64 o])] [] (.t (.bool (decide (bh m x.act=o)))) []:=by
 have y:=jl m.ax;have z:=hm.ax;obtain⟨D,h1⟩:=jB.1 hi;obtain⟨a,u⟩:=am (xs:=m.ax) (k:=x.act.toNat) (by omega);have G:=fF u;rw[kT u,tw,oD];refine Cl.ap rfl Tryz.func68 rfl rfl rfl ?_;by_cases v:a.op=o
 ·
  rw[decide_eq_true v];exact ah
 ·
  rw[decide_eq_false v];exact ah
def M1{m:Md}{p:Pln}{o:Int}(hm:bx m)(hl:p.places.length<=140737488351232)(hi:∀x∈p.places,b9 m x.act=true):Cl aj 66 [.t (.int .i64 o),.t (.tp [.fn (.func 58) 0 [.tp (gm m)]]),.t (.tp (tF p)),.t (.tp (gm m))] [] (.t (.bool (!(eP m o&&!(p.places.any fun x=>decide (bh m x.act=o)))))) []:=by
 have v:=Ez hm o;have u:=Iu (C:=p.places) (p:=fun x=>decide (bh m x.act=o)) (c1:=.tp (gm m)) (c2:=.tp [.int .i64 o]) hl (fun x hx=>M0 hm (hi x hx));obtain⟨a,y⟩:∃b,eP m o=b:=⟨_,rfl⟩;obtain⟨b,z⟩:∃b,(p.places.any fun x=>decide (bh m x.act=o))=b:=⟨_,rfl⟩;rw[y]at v⊢;rw[z]at u⊢;rw[oD]at v u⊢;rw[bK];refine Cl.ap rfl Tryz.func66 rfl rfl rfl ?_
 cases a with
 |false=>
  exact ah
 |true=>
  repeat'(first
|(refine aw ?_)
|((with_reducible apply aa.av);(case hW=>exact rfl);(case hx=>first
|(exact ai u)
|exact ae))
|((with_reducible apply aa.u0);(case hx=>first
|(exact ai v)
|exact ae))
|fail)
  refine ba (.inr rfl) rfl ?_;cases b <;>rfl
def ln(m:Md)(x:bM):Bool:=(decide (0<=x.bu)&&decide (x.bu <m.cons.length))&&decide ((m.cons.getD x.bu.toNat k7).kind=0)
def Cg{m:Md}{x:bM}:ln m x=true↔(0<=x.bu/\x.bu <m.cons.length)/\(m.cons.getD x.bu.toNat k7).kind=0:=by
 unfold ln;simp only[Bool.and_eq_true,decide_eq_true_eq]
def M2{m:Md}{p:Pln}(hm:bx m)(ag:∀a∈m.ax,jj a.eff)(al:m.ops.length<=4398046511104)(hp:nO p):Cl aj 27 [.t (bN m),.t (a_ p)] [] (.t (.bool (cy m p))) []:=by
 have kv:=DU hm ag al;have aY:=sF p.aM;have a1:=kP p.aA;have bb:=lG p.places;have a6:=aW p.bj;have aT:=qE m.cons;have bd:=hm.cons;have au:=hp.aM;have aB:=hp.aA;have aG:=hp.places;have aF:=hp.bj;have kl:=fun(L:Lck) (h:L∈p.aA)=>MI (L:=L) hm (by have:=hp.mem L h;omega);have an:=Nw (C:=p.aM) (f:=bM.bu) (by omega) (fun x _=>My x);have ao:=Nx (C:=p.bj) (f:=id) (by omega) (fun x _=>MB x);have kM:=MN (C:=p.places) (fit:=eP m) (cap:=.tp (gm m)) hm (by omega) (fun x _ _=>Ez hm _);obtain⟨mv,y⟩:∃b,b6 m=b:=⟨_,rfl⟩;obtain⟨R1,G⟩:∃b,ci bM.bu p.aM=b:=⟨_,rfl⟩;obtain⟨z,I⟩:∃b,ci jI p.aA=b:=⟨_,rfl⟩;obtain⟨M,hM⟩:∃b,gp m (eP m) p.places=b:=⟨_,rfl⟩;obtain⟨R3,J⟩:∃b,ci id p.bj=b:=⟨_,rfl⟩;obtain⟨N,hN⟩:∃b,(p.bj.any fun o=>!(eP m o&&!(p.places.any fun x=>decide (bh m x.act=o))))=b:=⟨_,rfl⟩
 have e0:cy m p=((mv&&decide (p.aA.length<=64))&&((p.aM.drop 0).all (ln m)&&((p.aA.drop 0).all (dh m)&&(((R1&&z)&&(M&&R3))&&!N)))):=by
  have e1:cy m p=((b6 m&&decide (p.aA.length<=64))&&(((ci bM.bu p.aM&&p.aM.all (ln m))&&(p.aA.all (dh m)&&ci jI p.aA))&&(gp m (eP m) p.places&&(ci id p.bj&&p.bj.all fun o=>eP m o&&!p.places.any fun x=>decide (bh m x.act=o))))):=rfl;rw[e1,qv (fun o=>eP m o&&!p.places.any fun x=>decide (bh m x.act=o)) p.bj,y,G,I,hM,J,hN];show _=((mv&&decide (p.aA.length<=64))&&(p.aM.all (ln m)&&(p.aA.all (dh m)&&(((R1&&z)&&(M&&R3))&&!N))))
  generalize decide (p.aA.length<=64)=d;generalize p.aM.all (ln m)=d1;generalize p.aA.all (dh m)=d2;cases mv <;>cases d <;>cases d1 <;>cases d2 <;>cases R1 <;>cases z <;>cases M <;>cases R3 <;>cases N <;>rfl
 rw[y]at kv;rw[G]at an;rw[J]at ao;rw[hM]at kM
 have kN:M=true->Cl aj 42 [.t (aD p.bj),.t (.fn (.func 66) 0 [.tp [.fn (.func 58) 0 [.tp (gm m)]],.tp (tF p),.tp (gm m)])] [] (.t (.bool N)) []:=fun h=>by
  rw[<- hN];refine Iv (C:=p.bj) (by omega) (fun o _=>M1 hm (by omega) fun x hx=>?_);rw[<- hM]at h;unfold gp at h;rw[Bool.and_eq_true]at h;have:=List.all_eq_true.1 h.2 x hx;rw[Bool.and_eq_true]at this;exact this.1
 have ad:mv=true->(∀L∈p.aA,dh m L=true)->Cl aj 61 [.t (.arr (fM p.aA)),.t (.fn (.func 62) 0 [])] [] (.t (.bool z)) []:=fun h hk=>by
  rw[<- I];refine Ny (by omega) fun x hx=>MH ?_;have h1:=lE.1 (hk x hx);have h8:=Eh (y.trans h);have:=h1.a0;have:=h1.ab;have:=h1.b;omega
 rw[e0];unfold a_;rw[aZ]at kv kl kM⊢;rw[oD]at kM kN;rw[bK]at kN⊢;refine Cl.ap rfl Tryz.func27 rfl rfl rfl ?_
 cases mv with
 |false=>
  rw[Bool.false_and,Bool.false_and];exact ah
 |true=>
  by_cases D:p.aA.length<=64
  ·
   rw[decide_eq_true D,Bool.true_and,Bool.true_and];refine aq ?_;refine az.ind (fun q:Nat=>[(22,.t (.int .i64 (q:Int)))]) (fun q=>q<=p.aM.length/\(p.aM.drop 0).all (ln m)=(p.aM.drop q).all (ln m)) (fun q=>p.aM.length - q) 0 rfl ⟨by omega,rfl⟩ (fun q hq=>?_);obtain⟨h1,h2⟩:=hq;rw[h2];rcases Nat.lt_or_ge q p.aM.length with h3|h3
   ·
    obtain⟨x,hx⟩:=am h3;have hc:=sE hx;have v:=iT (ln m) hx;rw[v];by_cases hg:0<=x.bu/\x.bu <m.cons.length
    ·
     obtain⟨g1,g2⟩:=hg;obtain⟨c,V⟩:=am (xs:=m.cons) (k:=x.bu.toNat) (by omega);have aR:=ph V;have u:=Cg (m:=m) (x:=x);rw[List.getD_eq_getElem?_getD,V,Option.getD_some]at u;by_cases hk:c.kind=0
     ·
      rw[u.2 ⟨⟨g1,g2⟩,hk⟩,Bool.true_and];exact ah
     ·
      have hf:ln m x=false:=by rw[<- Bool.not_eq_true,u];exact fun h=>hk h.2
      rw[hf,Bool.false_and,Bool.false_and];exact ah
    ·
     have hf:ln m x=false:=by rw[<- Bool.not_eq_true,Cg];exact fun h=>hg h.1
     rw[hf,Bool.false_and,Bool.false_and]
     repeat'(first
|(refine a8 ?_)
|((with_reducible apply aa.aX)<;>intro hq)
|(refine aw ?_)
|((with_reducible apply aa.av);(case hW=>exact rfl);(case hx=>exact ae))
|((with_reducible apply aa.u0);(case hx=>exact ae))
|fail)
     all_goals first
      |exact⟨.inr rfl,rfl⟩
      |(exfalso;apply hg;constructor <;>omega)
   ·
    rw[gT _ h3,Bool.true_and];refine aq ?_;refine az.ind (fun q:Nat=>[(51,.t (.int .i64 (q:Int)))]) (fun q=>q<=p.aA.length/\(p.aA.drop 0).all (dh m)=(p.aA.drop q).all (dh m)/\(p.aA.take q).all (dh m)=true) (fun q=>p.aA.length - q) 0 rfl ⟨by omega,rfl,by simp⟩ (fun q hq=>?_);obtain⟨g1,g2,g4⟩:=hq;rw[g2];rcases Nat.lt_or_ge q p.aA.length with g3|g3
    ·
     obtain⟨L,hL⟩:=am g3;have aN:=nw hL;have kL:=kl L (List.mem_of_getElem? hL);have v:=iT (dh m) hL;have Z:=fun hb=>sj g4 hL hb;rw[v];obtain⟨b,hb⟩:∃b,dh m L=b:=⟨_,rfl⟩;rw[hb]at kL Z⊢;rw[mw]at kL
     cases b with
     |false=>
      rw[Bool.false_and,Bool.false_and];exact ah
     |true=>
      rw[Bool.true_and];refine aq ?_;exact⟨q+1,rfl,rfl,⟨by omega,rfl,Z rfl⟩,by omega⟩
    ·
     have U:=uy g4 g3;have ad:=ad rfl (List.all_eq_true.1 U);rw[gT _ g3,Bool.true_and]
     cases R1 with
     |false=>
      exact ah
     |true=>
      cases z with
      |false=>
       exact ah
      |true=>
       cases M with
       |false=>
        exact ah
       |true=>
        have kN:=kN rfl
        cases R3 with
        |false=>
         exact ah
        |true=>
         exact ah
  ·
   rw[decide_eq_false D];exact ah
end Go.Proofs.YtcgdbhlnkificaaGreatDoor
