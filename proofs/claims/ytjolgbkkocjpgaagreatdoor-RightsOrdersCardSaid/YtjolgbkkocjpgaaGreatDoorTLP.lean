/- The code's plans: numbers that rise;members,as contracts. No condition. -/
import Derived.Test.YtjolgbkkocjpgaaGreatDoorTLB
import Derived.Test.YtjolgbkkocjpgaaGreatDoorTLD
import Derived.Test.YtjolgbkkocjpgaaGreatDoorTP
set_option linter.defProp false
set_option linter.unusedSimpArgs false
set_option linter.unusedVariables false
set_option linter.unusedSectionVars false
namespace Go.Proofs.YtjolgbkkocjpgaaGreatDoor
open Go.RowKit
set_option maxRecDepth 100000
set_option maxHeartbeats 16000000
def fG{α:Type}(f:α->Int)(l:List α)(i:Nat)(x:α):Bool:=decide (i=0)||match l[i - 1]? with
 |some y=>decide (f y <f x)
 |none=>false
def vU{α:Type}(f:α->Int)(l:List α):cu f l=aY (fG f l) (0+1) (l.drop (0+1)):=by
 cases l with
 |nil=>rfl
 |cons x l=>rfl
def vV{α:Type}{f:α->Int}{l:List α}{p:Nat}{x y:α}(hy:l[p]?=some y):fG f l (p+1) x=decide (f y <f x):=by
 unfold fG;rw[Nat.add_sub_cancel,hy];rfl
def OG{C:List cn}{f:cn->Int}(hl:C.length<=140737488351232)(hp:∀x∈C,Cl ai 60 [.t (.agg (qO x))] [] (.t (.int .i64 (f x))) []):Cl ai 59 [.t (.arr (fq C)),.t (.fn (.func 60) 0 [])] [] (.t (.bool (cu f C))) []:=by
 have ab:=py C;rw[vU];refine Cl.ao rfl Tryz.func59 rfl rfl rfl ?_;refine ar ?_;refine aC.ind (fun p:Nat=>[(5,.t (.int .i64 ((p+1:Nat):Int)))]) (fun p=>(p=0\/p+1<=C.length)/\aY (fG f C) (0+1) (C.drop (0+1))=aY (fG f C) (p+1) (C.drop (p+1))) (fun p=>C.length - p) 0 rfl ⟨.inl rfl,rfl⟩ (fun p hq=>?_);obtain⟨h1,h2⟩:=hq;rw[h2];rcases Nat.lt_or_ge (p+1) C.length with h3|h3
 ·
  obtain⟨x,D⟩:=am h3;obtain⟨y,J⟩:=am (xs:=C) (k:=p) (by omega);have hc:=sO D;have hd:=sO J;have Z:(fq C)[(((p+1:Nat):Int) - 1).toNat]?=some [.int .i64 y.cF,.int .i64 y.s.e,.int .i64 y.s.f,.bool y.s.hold,.int .i64 y.s.idx,ax y.s.st]:=by rw[show(((p+1:Nat):Int) - 1).toNat=p by omega];exact hd
  have G:=hp x (List.mem_of_getElem? D);have I:=hp y (List.mem_of_getElem? J);have u:=gz (p:=fG f C) D;have v:=gA (p:=fG f C) D;rw[vV J,decide_eq_true_eq]at u v;obtain⟨a,U⟩:∃a,f x=a:=⟨_,rfl⟩;obtain⟨b,V⟩:∃b,f y=b:=⟨_,rfl⟩;rw[U]at G u v;rw[V]at I u v;by_cases z:b <a
  ·
   refine ar ?_;exact⟨p+1,rfl,rfl,⟨.inr (by omega),v z⟩,by omega⟩
  ·
   rw[u z];exact af
 ·
  rw[eT h3];exact af
def OH{C:List Lck}{f:Lck->Int}(hl:C.length<=140737488351232)(hp:∀x∈C,Cl ai 62 [.t (.agg (j1 x))] [] (.t (.int .i64 (f x))) []):Cl ai 61 [.t (.arr (e_ C)),.t (.fn (.func 62) 0 [])] [] (.t (.bool (cu f C))) []:=by
 have ab:=vJ C;rw[vU];refine Cl.ao rfl Tryz.func61 rfl rfl rfl ?_;refine ar ?_;refine aC.ind (fun p:Nat=>[(5,.t (.int .i64 ((p+1:Nat):Int)))]) (fun p=>(p=0\/p+1<=C.length)/\aY (fG f C) (0+1) (C.drop (0+1))=aY (fG f C) (p+1) (C.drop (p+1))) (fun p=>C.length - p) 0 rfl ⟨.inl rfl,rfl⟩ (fun p hq=>?_);obtain⟨h1,h2⟩:=hq;rw[h2];rcases Nat.lt_or_ge (p+1) C.length with h3|h3
 ·
  obtain⟨x,D⟩:=am h3;obtain⟨y,J⟩:=am (xs:=C) (k:=p) (by omega);have hc:=sP D;have hd:=sP J;have Z:(e_ C)[(((p+1:Nat):Int) - 1).toNat]?=some [.int .i64 y.a,.int .i64 y.b,.int .i64 y.pa,.int .i64 y.pb,.arr (cK y.mem)]:=by rw[show(((p+1:Nat):Int) - 1).toNat=p by omega];exact hd
  have G:=hp x (List.mem_of_getElem? D);have I:=hp y (List.mem_of_getElem? J);have u:=gz (p:=fG f C) D;have v:=gA (p:=fG f C) D;rw[vV J,decide_eq_true_eq]at u v;obtain⟨a,U⟩:∃a,f x=a:=⟨_,rfl⟩;obtain⟨b,V⟩:∃b,f y=b:=⟨_,rfl⟩;rw[U]at G u v;rw[V]at I u v;by_cases z:b <a
  ·
   refine ar ?_;exact⟨p+1,rfl,rfl,⟨.inr (by omega),v z⟩,by omega⟩
  ·
   rw[u z];exact af
 ·
  rw[eT h3];exact af
def Fe{C:List Mem}{f:Mem->Int}(hl:C.length<=140737488351232)(hp:∀x∈C,Cl ai 102 [.t (.agg (gW x))] [] (.t (.int .i64 (f x))) []):Cl ai 101 [.t (.arr (cK C)),.t (.fn (.func 102) 0 [])] [] (.t (.bool (cu f C))) []:=by
 have ab:=n8 C;rw[vU];refine Cl.ao rfl Tryz.func101 rfl rfl rfl ?_;refine ar ?_;refine aC.ind (fun p:Nat=>[(5,.t (.int .i64 ((p+1:Nat):Int)))]) (fun p=>(p=0\/p+1<=C.length)/\aY (fG f C) (0+1) (C.drop (0+1))=aY (fG f C) (p+1) (C.drop (p+1))) (fun p=>C.length - p) 0 rfl ⟨.inl rfl,rfl⟩ (fun p hq=>?_);obtain⟨h1,h2⟩:=hq;rw[h2];rcases Nat.lt_or_ge (p+1) C.length with h3|h3
 ·
  obtain⟨x,D⟩:=am h3;obtain⟨y,J⟩:=am (xs:=C) (k:=p) (by omega);have hc:=qP D;have hd:=qP J;have Z:(cK C)[(((p+1:Nat):Int) - 1).toNat]?=some [.int .i64 y.act,.int .i64 y.s.e,.int .i64 y.s.f,.bool y.s.hold,.int .i64 y.s.idx,ax y.s.st]:=by rw[show(((p+1:Nat):Int) - 1).toNat=p by omega];exact hd
  have G:=hp x (List.mem_of_getElem? D);have I:=hp y (List.mem_of_getElem? J);have u:=gz (p:=fG f C) D;have v:=gA (p:=fG f C) D;rw[vV J,decide_eq_true_eq]at u v;obtain⟨a,U⟩:∃a,f x=a:=⟨_,rfl⟩;obtain⟨b,V⟩:∃b,f y=b:=⟨_,rfl⟩;rw[U]at G u v;rw[V]at I u v;by_cases z:b <a
  ·
   refine ar ?_;exact⟨p+1,rfl,rfl,⟨.inr (by omega),v z⟩,by omega⟩
  ·
   rw[u z];exact af
 ·
  rw[eT h3];exact af
def OJ{C:List Int}{f:Int->Int}(hl:C.length<=140737488351232)(hp:∀x∈C,Cl ai 65 [.t (.int .i64 x)] [] (.t (.int .i64 (f x))) []):Cl ai 64 [.t (ax C),.t (.fn (.func 65) 0 [])] [] (.t (.bool (cu f C))) []:=by
 have ab:=aQ C;rw[vU];refine Cl.ao rfl Tryz.func64 rfl rfl rfl ?_;refine ar ?_;refine aC.ind (fun p:Nat=>[(5,.t (.int .i64 ((p+1:Nat):Int)))]) (fun p=>(p=0\/p+1<=C.length)/\aY (fG f C) (0+1) (C.drop (0+1))=aY (fG f C) (p+1) (C.drop (p+1))) (fun p=>C.length - p) 0 rfl ⟨.inl rfl,rfl⟩ (fun p hq=>?_);obtain⟨h1,h2⟩:=hq;rw[h2];rcases Nat.lt_or_ge (p+1) C.length with h3|h3
 ·
  obtain⟨x,D⟩:=am h3;obtain⟨y,J⟩:=am (xs:=C) (k:=p) (by omega);have hc:=aU D;have hd:=aU J;have Z:(aG C)[(((p+1:Nat):Int) - 1).toNat]?=some [.int .i64 y]:=by rw[show(((p+1:Nat):Int) - 1).toNat=p by omega];exact hd
  have G:=hp x (List.mem_of_getElem? D);have I:=hp y (List.mem_of_getElem? J);have u:=gz (p:=fG f C) D;have v:=gA (p:=fG f C) D;rw[vV J,decide_eq_true_eq]at u v;obtain⟨a,U⟩:∃a,f x=a:=⟨_,rfl⟩;obtain⟨b,V⟩:∃b,f y=b:=⟨_,rfl⟩;rw[U]at G u v;rw[V]at I u v;by_cases z:b <a
  ·
   refine ar ?_;exact⟨p+1,rfl,rfl,⟨.inr (by omega),v z⟩,by omega⟩
  ·
   rw[u z];exact af
 ·
  rw[eT h3];exact af
def sV(x:Mem):gW x=[.int .i64 x.act,.int .i64 x.s.e,.int .i64 x.s.f,.bool x.s.hold,.int .i64 x.s.idx,ax x.s.st]:=rfl
def OK(x:cn):qO x=[.int .i64 x.cF,.int .i64 x.s.e,.int .i64 x.s.f,.bool x.s.hold,.int .i64 x.s.idx,ax x.s.st]:=rfl
def oc(x:Lck):j1 x=[.int .i64 x.a,.int .i64 x.b,.int .i64 x.pa,.int .i64 x.pb,.arr (cK x.mem)]:=rfl
def od(m:Md):dW m=[ax m.ak,.arr (br m.tables),.arr (b5 m.bw),.arr (dN m.cons),.arr (dO m.ops),.arr (de m.ay),.arr (cG m.aI)]:=rfl
def bX(p:Pln):sN p=[.arr (fq p.aw),.arr (e_ p.aR),.arr (cK p.places),ax p.bI]:=rfl
def Ff(x:Mem):Cl ai 102 [.t (.agg (gW x))] [] (.t (.int .i64 x.act)) []:=by
 rw[sV];refine Cl.ao rfl Tryz.func102 rfl rfl rfl ?_;exact af
def OL(x:cn):Cl ai 60 [.t (.agg (qO x))] [] (.t (.int .i64 x.cF)) []:=by
 rw[OK];refine Cl.ao rfl Tryz.func60 rfl rfl rfl ?_;exact af
def OM{x:Lck}(h:(0<=x.a/\x.a<=1000000)/\(0<=x.b/\x.b<=1000000)):Cl ai 62 [.t (.agg (j1 x))] [] (.t (.int .i64 (qz x))) []:=by
 unfold qz;rw[oc];refine Cl.ao rfl Tryz.func62 rfl rfl rfl ?_;exact af
def ON(x:Int):Cl ai 65 [.t (.int .i64 x)] [] (.t (.int .i64 (id x))) []:=by
 refine Cl.ao rfl Tryz.func65 rfl rfl rfl ?_;exact af
def Fg{m:Md}(hm:bt m)(o:Int):Cl ai 58 [.t (.int .i64 o),.t (.tp (dW m))] [] (.t (.bool (iv m o))) []:=by
 have D:=pt m.ops;have G:=hm.ops;unfold iv;rw[od];refine Cl.ao rfl Tryz.func58 rfl rfl rfl ?_;by_cases h:0<=o/\o <m.ops.length
 ·
  obtain⟨v,h1⟩:=h;obtain⟨x,hx⟩:=am (xs:=m.ops) (k:=o.toNat) (by omega);have z:=qL hx;have e:eX m o=x:=by unfold eX;rw[List.getD_eq_getElem?_getD,hx];rfl
  rw[e,decide_eq_true v,decide_eq_true h1,Bool.true_and,Bool.true_and];obtain⟨b,y⟩:∃b,x.ord=b:=⟨_,rfl⟩;rw[y]at z⊢
  cases b with
  |true=>
   exact af
  |false=>
   exact af
 ·
  have u:(decide (0<=o)&&decide (o <(m.ops.length:Int)))=false:=by
   rw[<- Bool.not_eq_true,Bool.and_eq_true,decide_eq_true_eq,decide_eq_true_eq];exact h
  rw[u,Bool.false_and]
  repeat'(first
|(with_reducible apply ac.seq)
|((with_reducible apply ac.text);(try case hm=>exact rfl))
|(with_reducible apply ac.ret)
|((with_reducible apply aa.bc)<;>intro I)
|((with_reducible apply aa.cA);(case hp=>exact aj))
|(with_reducible apply aa.ap)
|((with_reducible apply aa.gf);(case hW=>exact rfl))
|((with_reducible apply aa.aD);(case hW=>exact rfl);(case hx=>exact ah))
|((with_reducible apply aa.u0);(case hx=>exact ah))
|fail)
  all_goals first
   |exact⟨.inr rfl,rfl⟩
   |(exfalso;apply h;constructor <;>omega)
def OO(L:Lck)(o:Int):Cl ai 100 [.t (.int .i64 o),.t (.tp (j1 L))] [] (.t (.bool (decide (o=L.a)||decide (o=L.b)))) []:=by
 rw[oc];refine Cl.ao rfl Tryz.func100 rfl rfl rfl ?_;exact af
def sW{m:Md}{k:Int}{a:eD}(h:m.ay[k.toNat]?=some a):bv m k=a.op:=by unfold bv;rw[List.getD_eq_getElem?_getD,h];rfl
def OP{m:Md}{fit:Int->Bool}{cap:AV}{x:Mem}(hm:bt m)(hf:b9 m x.act=true->Cl ai 100 [.t (.int .i64 (bv m x.act)),.t cap] [] (.t (.bool (fit (bv m x.act)))) []):Cl ai 103 [.t (.agg (gW x)),.t (.tp (dW m)),.t (.tp [.fn (.func 100) 0 [cap]])] [] (.t (.bool (!(b9 m x.act&&fit (bv m x.act))))) []:=by
 have G:=jx m.ay;have I:=hm.ay;have u:=ju (m:=m) (k:=x.act);obtain⟨J,v⟩:∃b,b9 m x.act=b:=⟨_,rfl⟩;rw[v]at hf u⊢;rw[sV,od];refine Cl.ao rfl Tryz.func103 rfl rfl rfl ?_
 cases J with
 |true=>
  obtain⟨U,h1⟩:=u.1 rfl;obtain⟨a,z⟩:=am (xs:=m.ay) (k:=x.act.toNat) (by omega);have V:=jZ z;have hf:=hf rfl;rw[sW z]at hf⊢;obtain⟨b,D⟩:∃b,fit a.op=b:=⟨_,rfl⟩;rw[D]at hf⊢;exact af
 |false=>
  have y:¬(0<=x.act/\x.act <m.ay.length):=fun h=>by have:=u.2 h;cases this
  rw[Bool.false_and]
  repeat'(first
|(with_reducible apply ac.seq)
|((with_reducible apply ac.text);(try case hm=>exact rfl))
|((with_reducible apply ac.drawn);(case hm=>exact rfl))
|(with_reducible apply ac.ret)
|((with_reducible apply aa.bc)<;>intro Z)
|((with_reducible apply aa.cd);(case hp=>exact aj))
|(with_reducible apply aa.ap)
|((with_reducible apply aa.gf);(case hW=>exact rfl))
|((with_reducible apply aa.aD);(case hW=>exact rfl);(case hx=>exact ah))
|((with_reducible apply aa.u0);(case hx=>exact ah))
|fail)
  all_goals first
   |exact⟨.inr rfl,rfl⟩
   |(exfalso;apply y;constructor <;>omega)
def OQ{m:Md}{fit:Int->Bool}{cap:AV}{C:List Mem}(hm:bt m)(hl:C.length<=140737488351232)(hf:∀x∈C,b9 m x.act=true->Cl ai 100 [.t (.int .i64 (bv m x.act)),.t cap] [] (.t (.bool (fit (bv m x.act)))) []):Cl ai 63 [.t (bz m),.t (.arr (cK C)),.t (.fn (.func 100) 0 [cap])] [] (.t (.bool (iR m fit C))) []:=by
 have G:=Fe (f:=Mem.act) hl (fun x _=>Ff x);have u:=EX (p:=fun x=>!(b9 m x.act&&fit (bv m x.act))) (c1:=.tp (dW m)) (c2:=.tp [.fn (.func 100) 0 [cap]]) hl (fun x D=>OP hm (hf x D));have v:iR m fit C=(cu Mem.act C&&!(C.any fun x=>!(b9 m x.act&&fit (bv m x.act)))):=by unfold iR;rw[n7]
 rw[v];obtain⟨r,z⟩:∃r,cu Mem.act C=r:=⟨_,rfl⟩;obtain⟨b,y⟩:∃b,(C.any fun x=>!(b9 m x.act&&fit (bv m x.act)))=b:=⟨_,rfl⟩;rw[z]at G⊢;rw[y]at u⊢;rw[od]at u;rw[aW];refine Cl.ao rfl Tryz.func63 rfl rfl rfl ?_
 cases r with
 |true=>
  exact af
 |false=>
  exact af
def OR{m:Md}{fit:Int->Bool}{cap:AV}{x:Mem}(hm:bt m)(hf:b9 m x.act=true->Cl ai 58 [.t (.int .i64 (bv m x.act)),.t cap] [] (.t (.bool (fit (bv m x.act)))) []):Cl ai 103 [.t (.agg (gW x)),.t (.tp (dW m)),.t (.tp [.fn (.func 58) 0 [cap]])] [] (.t (.bool (!(b9 m x.act&&fit (bv m x.act))))) []:=by
 have G:=jx m.ay;have I:=hm.ay;have u:=ju (m:=m) (k:=x.act);obtain⟨J,v⟩:∃b,b9 m x.act=b:=⟨_,rfl⟩;rw[v]at hf u⊢;rw[sV,od];refine Cl.ao rfl Tryz.func103 rfl rfl rfl ?_
 cases J with
 |true=>
  obtain⟨U,h1⟩:=u.1 rfl;obtain⟨a,z⟩:=am (xs:=m.ay) (k:=x.act.toNat) (by omega);have V:=jZ z;have hf:=hf rfl;rw[sW z]at hf⊢;obtain⟨b,D⟩:∃b,fit a.op=b:=⟨_,rfl⟩;rw[D]at hf⊢;exact af
 |false=>
  have y:¬(0<=x.act/\x.act <m.ay.length):=fun h=>by have:=u.2 h;cases this
  rw[Bool.false_and]
  repeat'(first
|(with_reducible apply ac.seq)
|((with_reducible apply ac.text);(try case hm=>exact rfl))
|((with_reducible apply ac.drawn);(case hm=>exact rfl))
|(with_reducible apply ac.ret)
|((with_reducible apply aa.bc)<;>intro Z)
|((with_reducible apply aa.cd);(case hp=>exact aj))
|(with_reducible apply aa.ap)
|((with_reducible apply aa.gf);(case hW=>exact rfl))
|((with_reducible apply aa.aD);(case hW=>exact rfl);(case hx=>exact ah))
|((with_reducible apply aa.u0);(case hx=>exact ah))
|fail)
  all_goals first
   |exact⟨.inr rfl,rfl⟩
   |(exfalso;apply y;constructor <;>omega)
def OS{m:Md}{fit:Int->Bool}{cap:AV}{C:List Mem}(hm:bt m)(hl:C.length<=140737488351232)(hf:∀x∈C,b9 m x.act=true->Cl ai 58 [.t (.int .i64 (bv m x.act)),.t cap] [] (.t (.bool (fit (bv m x.act)))) []):Cl ai 63 [.t (bz m),.t (.arr (cK C)),.t (.fn (.func 58) 0 [cap])] [] (.t (.bool (iR m fit C))) []:=by
 have G:=Fe (f:=Mem.act) hl (fun x _=>Ff x);have u:=EX (p:=fun x=>!(b9 m x.act&&fit (bv m x.act))) (c1:=.tp (dW m)) (c2:=.tp [.fn (.func 58) 0 [cap]]) hl (fun x D=>OR hm (hf x D));have v:iR m fit C=(cu Mem.act C&&!(C.any fun x=>!(b9 m x.act&&fit (bv m x.act)))):=by unfold iR;rw[n7]
 rw[v];obtain⟨r,z⟩:∃r,cu Mem.act C=r:=⟨_,rfl⟩;obtain⟨b,y⟩:∃b,(C.any fun x=>!(b9 m x.act&&fit (bv m x.act)))=b:=⟨_,rfl⟩;rw[z]at G⊢;rw[y]at u⊢;rw[od]at u;rw[aW];refine Cl.ao rfl Tryz.func63 rfl rfl rfl ?_
 cases r with
 |true=>
  exact af
 |false=>
  exact af
set_option maxHeartbeats 32000000
def OT{m:Md}{o:Int}{x:gq}(h:m.ops[o.toNat]?=some x):eX m o=x:=by unfold eX;rw[List.getD_eq_getElem?_getD,h];rfl
def Fh{m:Md}{o k:Int}(hm:bt m)(h0:0<=o)(h1:o <m.ops.length):Cl ai 99 [.t (bz m),.t (.int .i64 o),.t (.int .i64 k)] [] (.t (.int .i64 (jq m o k))) []:=by
 have u:=pt m.ops;have y:=hm.ops;obtain⟨x,hx⟩:=am (xs:=m.ops) (k:=o.toNat) (by omega);have hc:=qL hx;have D:=hm.sK x (List.mem_of_getElem? hx);have v:=aQ x.ak;unfold jq;rw[OT hx];rw[aW];refine Cl.ao rfl Tryz.func99 rfl rfl rfl ?_;by_cases h:0<=k/\k <x.ak.length
 ·
  rw[if_pos h];obtain⟨I,J⟩:=h;obtain⟨s,hs⟩:=am (xs:=x.ak) (k:=k.toNat) (by omega);have z:=aU hs;rw[List.getD_eq_getElem?_getD,hs,Option.getD_some];exact af
 ·
  rw[if_neg h]
  repeat'(first
|(with_reducible apply ac.seq)
|((with_reducible apply ac.text);(try case hm=>exact rfl))
|(with_reducible first|apply ac.ret|apply aV)
|((with_reducible apply ac.aA);(case hc=>exact rfl))
|((with_reducible apply aa.bc)<;>intro G)
|((with_reducible apply aa.cd);(case hp=>exact aj))
|(with_reducible apply aa.ap)
|((with_reducible apply aa.gf);(case hW=>exact rfl))
|((with_reducible apply aa.aD);(case hW=>exact rfl);(case hx=>exact ah))
|((with_reducible apply aa.u0);(case hx=>exact ah))
|fail)
  all_goals first
   |exact⟨.inr rfl,rfl⟩
   |(exfalso;apply h;constructor <;>omega)
def OU{m:Md}{L:Lck}(h:¬(L.pa= -1/\L.pb= -1)):mR m L=true↔0<=jq m L.a L.pa/\jq m L.a L.pa=jq m L.b L.pb/\(L.a=L.b->L.pa=L.pb):=by
 unfold mR
 have h1:(decide (L.pa= -1)&&decide (L.pb= -1))=false:=by
  rw[<- Bool.not_eq_true,Bool.and_eq_true,decide_eq_true_eq,decide_eq_true_eq];exact h
 rw[h1,Bool.false_or];simp only[Bool.and_eq_true,Bool.or_eq_true,Bool.not_eq_true',decide_eq_true_eq,decide_eq_false_iff_not];constructor
 ·rintro⟨a,b,c⟩;exact⟨a,b,fun e=>c.resolve_left fun h=>h e⟩
 ·rintro⟨a,b,c⟩;refine⟨a,b,?_⟩;by_cases e:L.a=L.b
  ·exact .inr (c e)
  ·exact .inl e
def OW{m:Md}{L:Lck}(hm:bt m)(hL:L.mem.length<=140737488351232):Cl ai 57 [.t (bz m),.t (.agg (j1 L))] [] (.t (.bool (gv m L))) []:=by
 have G:=OQ (C:=L.mem) (fit:=fun o=>decide (o=L.a)||decide (o=L.b)) (cap:=.tp (j1 L)) hm hL (fun x _ _=>OO L _);have al:=pt m.ops;have an:=hm.ops;obtain⟨M,hM⟩:∃b,iR m (fun o=>decide (o=L.a)||decide (o=L.b)) L.mem=b:=⟨_,rfl⟩;have e0:gv m L=((decide (0<=L.a)&&(decide (L.a<=L.b)&&decide (L.b <m.ops.length)))&&(mR m L&&M)):=by unfold gv;rw[hM]
 rw[hM]at G;rw[e0];have y:=fun D h1=>Fh (o:=L.a) (k:=L.pa) hm D h1;have z:=fun D h1=>Fh (o:=L.b) (k:=L.pb) hm D h1;rw[aW]at G y z⊢;rw[oc]at G⊢;refine Cl.ao rfl Tryz.func57 rfl rfl rfl ?_;by_cases h:(0<=L.a/\L.a<=L.b)/\L.b <m.ops.length
 ·
  obtain⟨⟨D,h1⟩,h2⟩:=h;rw[decide_eq_true D,decide_eq_true h1,decide_eq_true h2,Bool.true_and,Bool.true_and,Bool.true_and];have y:=y D (by omega);have z:=z (by omega) h2;by_cases hp:L.pa= -1/\L.pb= -1
  ·
   obtain⟨ab,ad⟩:=hp;have ak:mR m L=true:=by unfold mR;rw[decide_eq_true ab,decide_eq_true ad];rfl
   rw[ak,Bool.true_and];exact af
  ·
   have v:=OU (m:=m) hp;obtain⟨S1,J⟩:∃s,jq m L.a L.pa=s:=⟨_,rfl⟩;obtain⟨S2,U⟩:∃s,jq m L.b L.pb=s:=⟨_,rfl⟩;rw[J]at y v;rw[U]at z v;by_cases u:0<=S1/\S1=S2/\(L.a=L.b->L.pa=L.pb)
   ·
    rw[v.2 u,Bool.true_and];obtain⟨q1,q2,q3⟩:=u;by_cases V:L.a=L.b
    ·
     have q4:=q3 V
     repeat'(first
|(with_reducible apply ac.seq)
|((with_reducible apply ac.text);(try case hm=>exact rfl))
|(with_reducible first|apply ac.skip|apply ac.ret|apply az)
|((with_reducible apply ac.aA);(case hc=>exact rfl))
|((with_reducible apply ac.aH);(case hc=>exact rfl))
|((with_reducible apply aa.bC);(case hp=>exact aj))
|((with_reducible apply aa.gN);(case hp=>exact aj))
|((with_reducible apply aa.cd);(case hp=>exact aj))
|((with_reducible apply aa.cA);(case hp=>exact aj))
|((with_reducible apply aa.fB);(case hp=>exact aj))
|(with_reducible apply aa.ap)
|((with_reducible apply aa.gf);(case hW=>exact rfl))
|((with_reducible apply aa.aD);(case hW=>exact rfl);(case hx=>first
|(exact aq z)
|exact ah))
|((with_reducible apply aa.u0);(case hx=>first
|(exact aq y)
|(exact aq G)
|exact ah))
|fail)
     all_goals first
      |exact⟨.inr rfl,rfl⟩
      |(exfalso;apply hp;constructor <;>omega)
    ·
     repeat'(first
|(with_reducible apply ac.seq)
|((with_reducible apply ac.text);(try case hm=>exact rfl))
|(with_reducible first|apply ac.skip|apply ac.ret|apply az)
|((with_reducible apply ac.aA);(case hc=>exact rfl))
|((with_reducible apply ac.aH);(case hc=>exact rfl))
|((with_reducible apply aa.bC);(case hp=>exact aj))
|((with_reducible apply aa.fP)<;>intro u)
|((with_reducible apply aa.cA);(case hp=>exact aj))
|((with_reducible apply aa.fQ);(case hp=>exact aj))
|((with_reducible apply aa.fB);(case hp=>exact aj))
|(with_reducible apply aa.ap)
|((with_reducible apply aa.gf);(case hW=>exact rfl))
|((with_reducible apply aa.aD);(case hW=>exact rfl);(case hx=>first
|(exact aq z)
|exact ah))
|((with_reducible apply aa.u0);(case hx=>first
|(exact aq y)
|(exact aq G)
|exact ah))
|fail)
     all_goals first
      |exact⟨.inr rfl,rfl⟩
      |(exfalso;apply hp;constructor <;>omega)
   ·
    have ag:mR m L=false:=by rw[<- Bool.not_eq_true,v];exact u
    rw[ag,Bool.false_and]
    repeat'(first
|(with_reducible apply ac.seq)
|((with_reducible apply ac.text);(try case hm=>exact rfl))
|(with_reducible first|apply ac.skip|apply ac.ret|apply az|apply aV)
|((with_reducible apply ac.aA);(case hc=>exact rfl))
|((with_reducible apply ac.aH);(case hc=>exact rfl))
|((with_reducible apply aa.bC);(case hp=>exact aj))
|((with_reducible apply aa.bc)<;>intro u)
|((with_reducible apply aa.fP)<;>intro u)
|((with_reducible apply aa.cd);(case hp=>exact aj))
|((with_reducible apply aa.cA);(case hp=>exact aj))
|((with_reducible apply aa.fQ);(case hp=>exact aj))
|((with_reducible apply aa.fg)<;>intro u)
|(with_reducible apply aa.ap)
|((with_reducible apply aa.gf);(case hW=>exact rfl))
|((with_reducible apply aa.aD);(case hW=>exact rfl);(case hx=>first
|(exact aq z)
|exact ah))
|((with_reducible apply aa.u0);(case hx=>first
|(exact aq y)
|exact ah))
|fail)
    all_goals first
     |exact⟨.inr rfl,rfl⟩
     |(exfalso;apply hp;constructor <;>omega)
     |(exfalso;apply u;refine⟨by omega,by omega,fun _=>by omega⟩)
 ·
  have Z:(decide (0<=L.a)&&(decide (L.a<=L.b)&&decide (L.b <(m.ops.length:Int))))=false:=by
   rw[<- Bool.not_eq_true,Bool.and_eq_true,Bool.and_eq_true,decide_eq_true_eq,decide_eq_true_eq,decide_eq_true_eq];exact fun I=>h ⟨⟨I.1,I.2.1⟩,I.2.2⟩
  rw[Z,Bool.false_and]
  repeat'(first
|(with_reducible apply ac.seq)
|((with_reducible apply ac.text);(try case hm=>exact rfl))
|(with_reducible first|apply ac.ret|apply aV)
|((with_reducible apply ac.aA);(case hc=>exact rfl))
|((with_reducible apply aa.bc)<;>intro u)
|((with_reducible apply aa.cd);(case hp=>exact aj))
|((with_reducible apply aa.bg)<;>intro u)
|(with_reducible apply aa.ap)
|((with_reducible apply aa.gf);(case hW=>exact rfl))
|((with_reducible apply aa.aD);(case hW=>exact rfl);(case hx=>exact ah))
|((with_reducible apply aa.u0);(case hx=>exact ah))
|fail)
  all_goals first
   |exact⟨.inr rfl,rfl⟩
   |(exfalso;apply h;refine⟨⟨?_,?_⟩,?_⟩<;>omega)
def OX{m:Md}{x:Mem}{o:Int}(hm:bt m)(hi:b9 m x.act=true):Cl ai 68 [.t (.agg (gW x)),.t (.tp (dW m)),.t (.tp [.int .i64 o])] [] (.t (.bool (decide (bv m x.act=o)))) []:=by
 have y:=jx m.ay;have z:=hm.ay;obtain⟨D,h1⟩:=ju.1 hi;obtain⟨a,u⟩:=am (xs:=m.ay) (k:=x.act.toNat) (by omega);have G:=jZ u;rw[sW u,sV,od];refine Cl.ao rfl Tryz.func68 rfl rfl rfl ?_;by_cases v:a.op=o
 ·
  rw[decide_eq_true v];exact af
 ·
  rw[decide_eq_false v];exact af
def OY{m:Md}{p:Pln}{o:Int}(hm:bt m)(hl:p.places.length<=140737488351232)(hi:∀x∈p.places,b9 m x.act=true):Cl ai 66 [.t (.int .i64 o),.t (.tp [.fn (.func 58) 0 [.tp (dW m)]]),.t (.tp (sN p)),.t (.tp (dW m))] [] (.t (.bool (!(iv m o&&!(p.places.any fun x=>decide (bv m x.act=o)))))) []:=by
 have v:=Fg hm o;have u:=N4 (C:=p.places) (p:=fun x=>decide (bv m x.act=o)) (c1:=.tp (dW m)) (c2:=.tp [.int .i64 o]) hl (fun x hx=>OX hm (hi x hx));obtain⟨a,y⟩:∃b,iv m o=b:=⟨_,rfl⟩;obtain⟨b,z⟩:∃b,(p.places.any fun x=>decide (bv m x.act=o))=b:=⟨_,rfl⟩;rw[y]at v⊢;rw[z]at u⊢;rw[od]at v u⊢;rw[bX];refine Cl.ao rfl Tryz.func66 rfl rfl rfl ?_
 cases a with
 |false=>
  exact af
 |true=>
  repeat'(first
|(with_reducible apply ac.seq)
|((with_reducible apply ac.text);(try case hm=>exact rfl))
|(with_reducible first|apply ac.ret|apply aa.ap)
|((with_reducible apply aa.aD);(case hW=>exact rfl);(case hx=>first
|(exact aq u)
|exact ah))
|((with_reducible apply aa.u0);(case hx=>first
|(exact aq v)
|exact ah))
|fail)
  refine aZ (.inr rfl) rfl ?_;cases b <;>rfl
def lx(m:Md)(x:cn):Bool:=(decide (0<=x.cF)&&decide (x.cF <m.cons.length))&&decide ((m.cons.getD x.cF.toNat mM).kind=0)
def Fi{m:Md}{x:cn}:lx m x=true↔(0<=x.cF/\x.cF <m.cons.length)/\(m.cons.getD x.cF.toNat mM).kind=0:=by
 unfold lx;simp only[Bool.and_eq_true,decide_eq_true_eq]
def OZ{m:Md}{p:Pln}(hm:bt m)(ag:∀a∈m.ay,iC a.eff)(ak:m.ops.length<=4398046511104)(hp:n9 p):Cl ai 28 [.t (bz m),.t (ba p)] [] (.t (.bool (dD m p))) []:=by
 have kv:=zC hm ag ak;have a_:=py p.aw;have bb:=vJ p.aR;have be:=n8 p.places;have bd:=aQ p.bI;have a6:=qJ m.cons;have bf:=hm.cons;have au:=hp.aw;have aH:=hp.aR;have aL:=hp.places;have aI:=hp.bI;have kl:=fun(L:Lck) (h:L∈p.aR)=>OW (L:=L) hm (by have:=hp.mem L h;omega);have al:=OG (C:=p.aw) (f:=cn.cF) (by omega) (fun x _=>OL x);have an:=OJ (C:=p.bI) (f:=id) (by omega) (fun x _=>ON x);have kM:=OS (C:=p.places) (fit:=iv m) (cap:=.tp (dW m)) hm (by omega) (fun x _ _=>Fg hm _);obtain⟨mv,y⟩:∃b,cm m=b:=⟨_,rfl⟩;obtain⟨R1,G⟩:∃b,cu cn.cF p.aw=b:=⟨_,rfl⟩;obtain⟨z,I⟩:∃b,cu qz p.aR=b:=⟨_,rfl⟩;obtain⟨M,hM⟩:∃b,iR m (iv m) p.places=b:=⟨_,rfl⟩;obtain⟨R3,J⟩:∃b,cu id p.bI=b:=⟨_,rfl⟩;obtain⟨N,hN⟩:∃b,(p.bI.any fun o=>!(iv m o&&!(p.places.any fun x=>decide (bv m x.act=o))))=b:=⟨_,rfl⟩
 have e0:dD m p=((mv&&decide (p.aR.length<=64))&&((p.aw.drop 0).all (lx m)&&((p.aR.drop 0).all (gv m)&&(((R1&&z)&&(M&&R3))&&!N)))):=by
  have e1:dD m p=((cm m&&decide (p.aR.length<=64))&&(((cu cn.cF p.aw&&p.aw.all (lx m))&&(p.aR.all (gv m)&&cu qz p.aR))&&(iR m (iv m) p.places&&(cu id p.bI&&p.bI.all fun o=>iv m o&&!p.places.any fun x=>decide (bv m x.act=o))))):=rfl;rw[e1,n7 (fun o=>iv m o&&!p.places.any fun x=>decide (bv m x.act=o)) p.bI,y,G,I,hM,J,hN];show _=((mv&&decide (p.aR.length<=64))&&(p.aw.all (lx m)&&(p.aR.all (gv m)&&(((R1&&z)&&(M&&R3))&&!N))))
  generalize decide (p.aR.length<=64)=d;generalize p.aw.all (lx m)=d1;generalize p.aR.all (gv m)=d2;cases mv <;>cases d <;>cases d1 <;>cases d2 <;>cases R1 <;>cases z <;>cases M <;>cases R3 <;>cases N <;>rfl
 rw[y]at kv;rw[G]at al;rw[J]at an;rw[hM]at kM
 have kN:M=true->Cl ai 11 [.t (ax p.bI),.t (.fn (.func 66) 0 [.tp [.fn (.func 58) 0 [.tp (dW m)]],.tp (sN p),.tp (dW m)])] [] (.t (.bool N)) []:=fun h=>by
  rw[<- hN];refine N2 (C:=p.bI) (by omega) (fun o _=>OY hm (by omega) fun x hx=>?_);rw[<- hM]at h;unfold iR at h;rw[Bool.and_eq_true]at h;have:=List.all_eq_true.1 h.2 x hx;rw[Bool.and_eq_true]at this;exact this.1
 have ad:mv=true->(∀L∈p.aR,gv m L=true)->Cl ai 61 [.t (.arr (e_ p.aR)),.t (.fn (.func 62) 0 [])] [] (.t (.bool z)) []:=fun h hk=>by
  rw[<- I];refine OH (by omega) fun x hx=>OM ?_;have h1:=sq.1 (hk x hx);have h8:=Kd (y.trans h);have:=h1.a0;have:=h1.ab;have:=h1.b;omega
 rw[e0];unfold ba;rw[aW]at kv kl kM⊢;rw[od]at kM kN;rw[bX]at kN⊢;refine Cl.ao rfl Tryz.func28 rfl rfl rfl ?_
 cases mv with
 |false=>
  rw[Bool.false_and,Bool.false_and];exact af
 |true=>
  by_cases D:p.aR.length<=64
  ·
   rw[decide_eq_true D,Bool.true_and,Bool.true_and];refine ar ?_;refine aC.ind (fun q:Nat=>[(22,.t (.int .i64 (q:Int)))]) (fun q=>q<=p.aw.length/\(p.aw.drop 0).all (lx m)=(p.aw.drop q).all (lx m)) (fun q=>p.aw.length - q) 0 rfl ⟨by omega,rfl⟩ (fun q hq=>?_);obtain⟨h1,h2⟩:=hq;rw[h2];rcases Nat.lt_or_ge q p.aw.length with h3|h3
   ·
    obtain⟨x,hx⟩:=am h3;have hc:=sO hx;have v:=iO (lx m) hx;rw[v];by_cases hg:0<=x.cF/\x.cF <m.cons.length
    ·
     obtain⟨g1,g2⟩:=hg;obtain⟨c,V⟩:=am (xs:=m.cons) (k:=x.cF.toNat) (by omega);have a1:=pu V;have u:=Fi (m:=m) (x:=x);rw[List.getD_eq_getElem?_getD,V,Option.getD_some]at u;by_cases hk:c.kind=0
     ·
      rw[u.2 ⟨⟨g1,g2⟩,hk⟩,Bool.true_and];exact af
     ·
      have hf:lx m x=false:=by rw[<- Bool.not_eq_true,u];exact fun h=>hk h.2
      rw[hf,Bool.false_and,Bool.false_and];exact af
    ·
     have hf:lx m x=false:=by rw[<- Bool.not_eq_true,Fi];exact fun h=>hg h.1
     rw[hf,Bool.false_and,Bool.false_and]
     repeat'(first
|(with_reducible first|apply ac.seq|apply ac.block)
|((with_reducible apply ac.text);(try case hm=>exact rfl))
|(with_reducible first|apply ac.skip|apply ac.ret|apply az|apply aV|apply bq)
|((with_reducible apply ac.aA);(case hc=>exact rfl))
|((with_reducible apply aa.aE);(case hp=>exact aj))
|((with_reducible apply aa.bc)<;>intro hq)
|((with_reducible apply aa.cd);(case hp=>exact aj))
|(with_reducible apply aa.ap)
|((with_reducible apply aa.gf);(case hW=>exact rfl))
|((with_reducible apply aa.aD);(case hW=>exact rfl);(case hx=>exact ah))
|((with_reducible apply aa.u0);(case hx=>exact ah))
|fail)
     all_goals first
      |exact⟨.inr rfl,rfl⟩
      |(exfalso;apply hg;constructor <;>omega)
   ·
    rw[gR _ h3,Bool.true_and];refine ar ?_;refine aC.ind (fun q:Nat=>[(51,.t (.int .i64 (q:Int)))]) (fun q=>q<=p.aR.length/\(p.aR.drop 0).all (gv m)=(p.aR.drop q).all (gv m)/\(p.aR.take q).all (gv m)=true) (fun q=>p.aR.length - q) 0 rfl ⟨by omega,rfl,by simp⟩ (fun q hq=>?_);obtain⟨g1,g2,g4⟩:=hq;rw[g2];rcases Nat.lt_or_ge q p.aR.length with g3|g3
    ·
     obtain⟨L,hL⟩:=am g3;have aS:=sP hL;have kL:=kl L (List.mem_of_getElem? hL);have v:=iO (gv m) hL;have Z:=fun hb=>sC g4 hL hb;rw[v];obtain⟨b,hb⟩:∃b,gv m L=b:=⟨_,rfl⟩;rw[hb]at kL Z⊢;rw[oc]at kL
     cases b with
     |false=>
      rw[Bool.false_and,Bool.false_and];exact af
     |true=>
      rw[Bool.true_and];refine ar ?_;exact⟨q+1,rfl,rfl,⟨by omega,rfl,Z rfl⟩,by omega⟩
    ·
     have U:=vx g4 g3;have ad:=ad rfl (List.all_eq_true.1 U);rw[gR _ g3,Bool.true_and]
     cases R1 with
     |false=>
      exact af
     |true=>
      cases z with
      |false=>
       exact af
      |true=>
       cases M with
       |false=>
        exact af
       |true=>
        have kN:=kN rfl
        cases R3 with
        |false=>
         exact af
        |true=>
         exact af
  ·
   rw[decide_eq_false D];exact af
end Go.Proofs.YtjolgbkkocjpgaaGreatDoor
