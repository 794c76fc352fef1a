/- The code's plans: numbers that rise. No condition. -/
import Derived.Test.YtjolgbkkocjpgaaGreatDoorTLB
import Derived.Test.YtjolgbkkocjpgaaGreatDoorTLD
import Derived.Test.YtjolgbkkocjpgaaGreatDoorTP
set_option linter.all false
namespace Go.Proofs.YtjolgbkkocjpgaaGreatDoor
open Go.RowKit
set_option maxRecDepth 100000
set_option maxHeartbeats 16000000
def gb{α:Type}(f:α->Int)(l:List α)(i:Nat)(x:α):Bool:=decide (i=0)||match l[i - 1]? with
 |some y=>decide (f y <f x)
 |none=>false
def wV{α:Type}(f:α->Int)(l:List α):cq f l=aL (gb f l) (0+1) (l.drop (0+1)):=by
 cases l with
 |nil=>rfl
 |cons x l=>rfl
def wU{α:Type}{f:α->Int}{l:List α}{p:Nat}{x y:α}(hy:l[p]?=some y):gb f l (p+1) x=decide (f y <f x):=by
 unfold gb;rw[Nat.add_sub_cancel,hy];rfl
def OW{C:List bI}{f:bI->Int}(hl:C.length<=140737488351232)(hp:∀x∈C,Cl ah 60 [.t (.agg (rh x))] [] (.t (.int .i64 (f x))) []):Cl ah 59 [.t (.arr (eA C)),.t (.fn (.func 60) 0 [])] [] (.t (.bool (cq f C))) []:=by
 have ab:=kE C;rw[wV];refine Cl.aq rfl Tryz.func59 rfl rfl rfl ?_;refine ak ?_;refine ax.ind (fun p:Nat=>[(5,.t (.int .i64 ((p+1:Nat):Int)))]) (fun p=>(p=0\/p+1<=C.length)/\aL (gb f C) (0+1) (C.drop (0+1))=aL (gb f C) (p+1) (C.drop (p+1))) (fun p=>C.length - p) 0 rfl ⟨.inl rfl,rfl⟩ (fun p hq=>?_);obtain⟨h1,h2⟩:=hq;rw[h2];rcases Nat.lt_or_ge (p+1) C.length with h3|h3
 ·
  obtain⟨x,D⟩:=aj h3;obtain⟨y,J⟩:=aj (xs:=C) (k:=p) (by omega);have hc:=oD D;have hd:=oD J;have Z:(eA C)[(((p+1:Nat):Int) - 1).toNat]?=some [.int .i64 y.bz,.int .i64 y.s.e,.int .i64 y.s.f,.bool y.s.hold,.int .i64 y.s.idx,ay y.s.st]:=by rw[show(((p+1:Nat):Int) - 1).toNat=p by omega];exact hd
  have G:=hp x (List.mem_of_getElem? D);have I:=hp y (List.mem_of_getElem? J);have u:=dB (p:=gb f C) D;have v:=dC (p:=gb f C) D;rw[wU J,decide_eq_true_eq]at u v;obtain⟨a,U⟩:∃a,f x=a:=⟨_,rfl⟩;obtain⟨b,V⟩:∃b,f y=b:=⟨_,rfl⟩;rw[U]at G u v;rw[V]at I u v;by_cases z:b <a
  ·
   refine ak ?_;exact⟨p+1,rfl,rfl,⟨.inr (by omega),v z⟩,by omega⟩
  ·
   rw[u z];exact ae
 ·
  rw[cU h3];exact ae
def OY{C:List Lck}{f:Lck->Int}(hl:C.length<=140737488351232)(hp:∀x∈C,Cl ah 62 [.t (.agg (jM x))] [] (.t (.int .i64 (f x))) []):Cl ah 61 [.t (.arr (dO C)),.t (.fn (.func 62) 0 [])] [] (.t (.bool (cq f C))) []:=by
 have ab:=nK C;rw[wV];refine Cl.aq rfl Tryz.func61 rfl rfl rfl ?_;refine ak ?_;refine ax.ind (fun p:Nat=>[(5,.t (.int .i64 ((p+1:Nat):Int)))]) (fun p=>(p=0\/p+1<=C.length)/\aL (gb f C) (0+1) (C.drop (0+1))=aL (gb f C) (p+1) (C.drop (p+1))) (fun p=>C.length - p) 0 rfl ⟨.inl rfl,rfl⟩ (fun p hq=>?_);obtain⟨h1,h2⟩:=hq;rw[h2];rcases Nat.lt_or_ge (p+1) C.length with h3|h3
 ·
  obtain⟨x,D⟩:=aj h3;obtain⟨y,J⟩:=aj (xs:=C) (k:=p) (by omega);have hc:=mL D;have hd:=mL J;have Z:(dO C)[(((p+1:Nat):Int) - 1).toNat]?=some [.int .i64 y.a,.int .i64 y.b,.int .i64 y.pa,.int .i64 y.pb,.arr (cw y.mem)]:=by rw[show(((p+1:Nat):Int) - 1).toNat=p by omega];exact hd
  have G:=hp x (List.mem_of_getElem? D);have I:=hp y (List.mem_of_getElem? J);have u:=dB (p:=gb f C) D;have v:=dC (p:=gb f C) D;rw[wU J,decide_eq_true_eq]at u v;obtain⟨a,U⟩:∃a,f x=a:=⟨_,rfl⟩;obtain⟨b,V⟩:∃b,f y=b:=⟨_,rfl⟩;rw[U]at G u v;rw[V]at I u v;by_cases z:b <a
  ·
   refine ak ?_;exact⟨p+1,rfl,rfl,⟨.inr (by omega),v z⟩,by omega⟩
  ·
   rw[u z];exact ae
 ·
  rw[cU h3];exact ae
def FK{C:List Mem}{f:Mem->Int}(hl:C.length<=140737488351232)(hp:∀x∈C,Cl ah 102 [.t (.agg (io x))] [] (.t (.int .i64 (f x))) []):Cl ah 101 [.t (.arr (cw C)),.t (.fn (.func 102) 0 [])] [] (.t (.bool (cq f C))) []:=by
 have ab:=kU C;rw[wV];refine Cl.aq rfl Tryz.func101 rfl rfl rfl ?_;refine ak ?_;refine ax.ind (fun p:Nat=>[(5,.t (.int .i64 ((p+1:Nat):Int)))]) (fun p=>(p=0\/p+1<=C.length)/\aL (gb f C) (0+1) (C.drop (0+1))=aL (gb f C) (p+1) (C.drop (p+1))) (fun p=>C.length - p) 0 rfl ⟨.inl rfl,rfl⟩ (fun p hq=>?_);obtain⟨h1,h2⟩:=hq;rw[h2];rcases Nat.lt_or_ge (p+1) C.length with h3|h3
 ·
  obtain⟨x,D⟩:=aj h3;obtain⟨y,J⟩:=aj (xs:=C) (k:=p) (by omega);have hc:=iQ D;have hd:=iQ J;have Z:(cw C)[(((p+1:Nat):Int) - 1).toNat]?=some [.int .i64 y.act,.int .i64 y.s.e,.int .i64 y.s.f,.bool y.s.hold,.int .i64 y.s.idx,ay y.s.st]:=by rw[show(((p+1:Nat):Int) - 1).toNat=p by omega];exact hd
  have G:=hp x (List.mem_of_getElem? D);have I:=hp y (List.mem_of_getElem? J);have u:=dB (p:=gb f C) D;have v:=dC (p:=gb f C) D;rw[wU J,decide_eq_true_eq]at u v;obtain⟨a,U⟩:∃a,f x=a:=⟨_,rfl⟩;obtain⟨b,V⟩:∃b,f y=b:=⟨_,rfl⟩;rw[U]at G u v;rw[V]at I u v;by_cases z:b <a
  ·
   refine ak ?_;exact⟨p+1,rfl,rfl,⟨.inr (by omega),v z⟩,by omega⟩
  ·
   rw[u z];exact ae
 ·
  rw[cU h3];exact ae
def OX{C:List Int}{f:Int->Int}(hl:C.length<=140737488351232)(hp:∀x∈C,Cl ah 65 [.t (.int .i64 x)] [] (.t (.int .i64 (f x))) []):Cl ah 64 [.t (ay C),.t (.fn (.func 65) 0 [])] [] (.t (.bool (cq f C))) []:=by
 have ab:=aO C;rw[wV];refine Cl.aq rfl Tryz.func64 rfl rfl rfl ?_;refine ak ?_;refine ax.ind (fun p:Nat=>[(5,.t (.int .i64 ((p+1:Nat):Int)))]) (fun p=>(p=0\/p+1<=C.length)/\aL (gb f C) (0+1) (C.drop (0+1))=aL (gb f C) (p+1) (C.drop (p+1))) (fun p=>C.length - p) 0 rfl ⟨.inl rfl,rfl⟩ (fun p hq=>?_);obtain⟨h1,h2⟩:=hq;rw[h2];rcases Nat.lt_or_ge (p+1) C.length with h3|h3
 ·
  obtain⟨x,D⟩:=aj h3;obtain⟨y,J⟩:=aj (xs:=C) (k:=p) (by omega);have hc:=aW D;have hd:=aW J;have Z:(aE C)[(((p+1:Nat):Int) - 1).toNat]?=some [.int .i64 y]:=by rw[show(((p+1:Nat):Int) - 1).toNat=p by omega];exact hd
  have G:=hp x (List.mem_of_getElem? D);have I:=hp y (List.mem_of_getElem? J);have u:=dB (p:=gb f C) D;have v:=dC (p:=gb f C) D;rw[wU J,decide_eq_true_eq]at u v;obtain⟨a,U⟩:∃a,f x=a:=⟨_,rfl⟩;obtain⟨b,V⟩:∃b,f y=b:=⟨_,rfl⟩;rw[U]at G u v;rw[V]at I u v;by_cases z:b <a
  ·
   refine ak ?_;exact⟨p+1,rfl,rfl,⟨.inr (by omega),v z⟩,by omega⟩
  ·
   rw[u z];exact ae
 ·
  rw[cU h3];exact ae
def tY(x:Mem):io x=[.int .i64 x.act,.int .i64 x.s.e,.int .i64 x.s.f,.bool x.s.hold,.int .i64 x.s.idx,ay x.s.st]:=rfl
def Kd(x:bI):rh x=[.int .i64 x.bz,.int .i64 x.s.e,.int .i64 x.s.f,.bool x.s.hold,.int .i64 x.s.idx,ay x.s.st]:=rfl
def mK(x:Lck):jM x=[.int .i64 x.a,.int .i64 x.b,.int .i64 x.pa,.int .i64 x.pb,.arr (cw x.mem)]:=rfl
def oS(m:Md):eD m=[ay m.ai,.arr (bq m.tables),.arr (bX m.bx),.arr (dc m.cons),.arr (dk m.ops),.arr (cK m.au),.arr (cu m.aG)]:=rfl
def bt(p:Pln):ui p=[.arr (eA p.ao),.arr (dO p.aD),.arr (cw p.places),ay p.bh]:=rfl
def Fi(x:Mem):Cl ah 102 [.t (.agg (io x))] [] (.t (.int .i64 x.act)) []:=by
 rw[tY];refine Cl.aq rfl Tryz.func102 rfl rfl rfl ?_;exact ae
def NS(x:bI):Cl ah 60 [.t (.agg (rh x))] [] (.t (.int .i64 x.bz)) []:=by
 rw[Kd];refine Cl.aq rfl Tryz.func60 rfl rfl rfl ?_;exact ae
def N0{x:Lck}(h:(0<=x.a/\x.a<=1000000)/\(0<=x.b/\x.b<=1000000)):Cl ah 62 [.t (.agg (jM x))] [] (.t (.int .i64 (jN x))) []:=by
 unfold jN;rw[mK];refine Cl.aq rfl Tryz.func62 rfl rfl rfl ?_;exact ae
def NU(x:Int):Cl ah 65 [.t (.int .i64 x)] [] (.t (.int .i64 (id x))) []:=by
 refine Cl.aq rfl Tryz.func65 rfl rfl rfl ?_;exact ae
def Fo{m:Md}(hm:bo m)(o:Int):Cl ah 58 [.t (.int .i64 o),.t (.tp (eD m))] [] (.t (.bool (fg m o))) []:=by
 have D:=mU m.ops;have G:=hm.ops;unfold fg;rw[oS];refine Cl.aq rfl Tryz.func58 rfl rfl rfl ?_;by_cases h:0<=o/\o <m.ops.length
 ·
  obtain⟨v,h1⟩:=h;obtain⟨x,hx⟩:=aj (xs:=m.ops) (k:=o.toNat) (by omega);have z:=nO hx;have e:eG m o=x:=by unfold eG;rw[List.getD_eq_getElem?_getD,hx];rfl
  rw[e,decide_eq_true v,decide_eq_true h1,Bool.true_and,Bool.true_and];obtain⟨b,y⟩:∃b,x.ord=b:=⟨_,rfl⟩;rw[y]at z⊢
  cases b with
  |true=>
   exact ae
  |false=>
   exact ae
 ·
  have u:(decide (0<=o)&&decide (o <(m.ops.length:Int)))=false:=by
   rw[<- Bool.not_eq_true,Bool.and_eq_true,decide_eq_true_eq,decide_eq_true_eq];exact h
  rw[u,Bool.false_and]
  repeat'(first
|((with_reducible apply aa.lZ);(case hp=>exact aA))
|((with_reducible apply aa.aX)<;>intro I)
|(refine ar ?_)
|((with_reducible apply aa.aB);(case hW=>exact rfl);(case hx=>exact af))
|((with_reducible apply aa.u0);(case hx=>exact af))
|fail)
  all_goals first
   |exact⟨.inr rfl,rfl⟩
   |(exfalso;apply h;constructor <;>omega)
def NZ(L:Lck)(o:Int):Cl ah 100 [.t (.int .i64 o),.t (.tp (jM L))] [] (.t (.bool (decide (o=L.a)||decide (o=L.b)))) []:=by
 rw[mK];refine Cl.aq rfl Tryz.func100 rfl rfl rfl ?_;exact ae
def jm{m:Md}{k:Int}{a:dU}(h:m.au[k.toNat]?=some a):bg m k=a.op:=by unfold bg;rw[List.getD_eq_getElem?_getD,h];rfl
def N3{m:Md}{fit:Int->Bool}{cap:AV}{x:Mem}(hm:bo m)(hf:bC m x.act=true->Cl ah 100 [.t (.int .i64 (bg m x.act)),.t cap] [] (.t (.bool (fit (bg m x.act)))) []):Cl ah 103 [.t (.agg (io x)),.t (.tp (eD m)),.t (.tp [.fn (.func 100) 0 [cap]])] [] (.t (.bool (!(bC m x.act&&fit (bg m x.act))))) []:=by
 have G:=fN m.au;have I:=hm.au;have u:=eC (m:=m) (k:=x.act);obtain⟨J,v⟩:∃b,bC m x.act=b:=⟨_,rfl⟩;rw[v]at hf u⊢;rw[tY,oS];refine Cl.aq rfl Tryz.func103 rfl rfl rfl ?_
 cases J with
 |true=>
  obtain⟨U,h1⟩:=u.1 rfl;obtain⟨a,z⟩:=aj (xs:=m.au) (k:=x.act.toNat) (by omega);have V:=ei z;have hf:=hf rfl;rw[jm z]at hf⊢;obtain⟨b,D⟩:∃b,fit a.op=b:=⟨_,rfl⟩;rw[D]at hf⊢;exact ae
 |false=>
  have y:¬(0<=x.act/\x.act <m.au.length):=fun h=>by have:=u.2 h;cases this
  rw[Bool.false_and]
  repeat'(first
|((with_reducible apply aa.ee);(case hp=>exact aA))
|((with_reducible apply aa.aX)<;>intro Z)
|(refine ar ?_)
|((with_reducible apply aa.aB);(case hW=>exact rfl);(case hx=>exact af))
|((with_reducible apply aa.u0);(case hx=>exact af))
|fail)
  all_goals first
   |exact⟨.inr rfl,rfl⟩
   |(exfalso;apply y;constructor <;>omega)
def N5{m:Md}{fit:Int->Bool}{cap:AV}{C:List Mem}(hm:bo m)(hl:C.length<=140737488351232)(hf:∀x∈C,bC m x.act=true->Cl ah 100 [.t (.int .i64 (bg m x.act)),.t cap] [] (.t (.bool (fit (bg m x.act)))) []):Cl ah 63 [.t (bk m),.t (.arr (cw C)),.t (.fn (.func 100) 0 [cap])] [] (.t (.bool (gD m fit C))) []:=by
 have G:=FK (f:=Mem.act) hl (fun x _=>Fi x);have u:=CH (p:=fun x=>!(bC m x.act&&fit (bg m x.act))) (c1:=.tp (eD m)) (c2:=.tp [.fn (.func 100) 0 [cap]]) hl (fun x D=>N3 hm (hf x D));have v:gD m fit C=(cq Mem.act C&&!(C.any fun x=>!(bC m x.act&&fit (bg m x.act)))):=by unfold gD;rw[pD]
 rw[v];obtain⟨r,z⟩:∃r,cq Mem.act C=r:=⟨_,rfl⟩;obtain⟨b,y⟩:∃b,(C.any fun x=>!(bC m x.act&&fit (bg m x.act)))=b:=⟨_,rfl⟩;rw[z]at G⊢;rw[y]at u⊢;rw[oS]at u;rw[aS];refine Cl.aq rfl Tryz.func63 rfl rfl rfl ?_
 cases r with
 |true=>
  exact ae
 |false=>
  exact ae
def N4{m:Md}{fit:Int->Bool}{cap:AV}{x:Mem}(hm:bo m)(hf:bC m x.act=true->Cl ah 58 [.t (.int .i64 (bg m x.act)),.t cap] [] (.t (.bool (fit (bg m x.act)))) []):Cl ah 103 [.t (.agg (io x)),.t (.tp (eD m)),.t (.tp [.fn (.func 58) 0 [cap]])] [] (.t (.bool (!(bC m x.act&&fit (bg m x.act))))) []:=by
 have G:=fN m.au;have I:=hm.au;have u:=eC (m:=m) (k:=x.act);obtain⟨J,v⟩:∃b,bC m x.act=b:=⟨_,rfl⟩;rw[v]at hf u⊢;rw[tY,oS];refine Cl.aq rfl Tryz.func103 rfl rfl rfl ?_
 cases J with
 |true=>
  obtain⟨U,h1⟩:=u.1 rfl;obtain⟨a,z⟩:=aj (xs:=m.au) (k:=x.act.toNat) (by omega);have V:=ei z;have hf:=hf rfl;rw[jm z]at hf⊢;obtain⟨b,D⟩:∃b,fit a.op=b:=⟨_,rfl⟩;rw[D]at hf⊢;exact ae
 |false=>
  have y:¬(0<=x.act/\x.act <m.au.length):=fun h=>by have:=u.2 h;cases this
  rw[Bool.false_and]
  repeat'(first
|((with_reducible apply aa.ee);(case hp=>exact aA))
|((with_reducible apply aa.aX)<;>intro Z)
|(refine ar ?_)
|((with_reducible apply aa.aB);(case hW=>exact rfl);(case hx=>exact af))
|((with_reducible apply aa.u0);(case hx=>exact af))
|fail)
  all_goals first
   |exact⟨.inr rfl,rfl⟩
   |(exfalso;apply y;constructor <;>omega)
def N6{m:Md}{fit:Int->Bool}{cap:AV}{C:List Mem}(hm:bo m)(hl:C.length<=140737488351232)(hf:∀x∈C,bC m x.act=true->Cl ah 58 [.t (.int .i64 (bg m x.act)),.t cap] [] (.t (.bool (fit (bg m x.act)))) []):Cl ah 63 [.t (bk m),.t (.arr (cw C)),.t (.fn (.func 58) 0 [cap])] [] (.t (.bool (gD m fit C))) []:=by
 have G:=FK (f:=Mem.act) hl (fun x _=>Fi x);have u:=CH (p:=fun x=>!(bC m x.act&&fit (bg m x.act))) (c1:=.tp (eD m)) (c2:=.tp [.fn (.func 58) 0 [cap]]) hl (fun x D=>N4 hm (hf x D));have v:gD m fit C=(cq Mem.act C&&!(C.any fun x=>!(bC m x.act&&fit (bg m x.act)))):=by unfold gD;rw[pD]
 rw[v];obtain⟨r,z⟩:∃r,cq Mem.act C=r:=⟨_,rfl⟩;obtain⟨b,y⟩:∃b,(C.any fun x=>!(bC m x.act&&fit (bg m x.act)))=b:=⟨_,rfl⟩;rw[z]at G⊢;rw[y]at u⊢;rw[oS]at u;rw[aS];refine Cl.aq rfl Tryz.func63 rfl rfl rfl ?_
 cases r with
 |true=>
  exact ae
 |false=>
  exact ae
set_option maxHeartbeats 32000000
def wL{m:Md}{o:Int}{x:gq}(h:m.ops[o.toNat]?=some x):eG m o=x:=by unfold eG;rw[List.getD_eq_getElem?_getD,h];rfl
def Ft{m:Md}{o k:Int}(hm:bo m)(h0:0<=o)(h1:o <m.ops.length):Cl ah 99 [.t (bk m),.t (.int .i64 o),.t (.int .i64 k)] [] (.t (.int .i64 (gW m o k))) []:=by
 have u:=mU m.ops;have y:=hm.ops;obtain⟨x,hx⟩:=aj (xs:=m.ops) (k:=o.toNat) (by omega);have G:=nO hx;have D:=hm.rX x (List.mem_of_getElem? hx);have v:=aO x.ai;unfold gW;rw[wL hx];rw[aS];refine Cl.aq rfl Tryz.func99 rfl rfl rfl ?_;by_cases h:0<=k/\k <x.ai.length
 ·
  rw[if_pos h];obtain⟨J,U⟩:=h;obtain⟨s,hs⟩:=aj (xs:=x.ai) (k:=k.toNat) (by omega);have z:=aW hs;rw[List.getD_eq_getElem?_getD,hs,Option.getD_some];exact ae
 ·
  rw[if_neg h]
  repeat'(first
|((with_reducible apply aa.ee);(case hp=>exact aA))
|((with_reducible apply aa.aX)<;>intro I)
|(refine ar ?_)
|((with_reducible apply aa.aB);(case hW=>exact rfl);(case hx=>exact af))
|((with_reducible apply aa.u0);(case hx=>exact af))
|fail)
  all_goals first
   |exact⟨.inr rfl,rfl⟩
   |(exfalso;apply h;constructor <;>omega)
def Fj{m:Md}{L:Lck}(h:¬(L.pa= -1/\L.pb= -1)):jQ m L=true↔0<=gW m L.a L.pa/\gW m L.a L.pa=gW m L.b L.pb/\(L.a=L.b->L.pa=L.pb):=by
 unfold jQ
 have h1:(decide (L.pa= -1)&&decide (L.pb= -1))=false:=by
  rw[<- Bool.not_eq_true,Bool.and_eq_true,decide_eq_true_eq,decide_eq_true_eq];exact h
 rw[h1,Bool.false_or];simp only[Bool.and_eq_true,Bool.or_eq_true,Bool.not_eq_true',decide_eq_true_eq,decide_eq_false_iff_not];constructor
 ·rintro⟨a,b,c⟩;exact⟨a,b,fun e=>c.resolve_left fun h=>h e⟩
 ·rintro⟨a,b,c⟩;refine⟨a,b,?_⟩;by_cases e:L.a=L.b
  ·exact .inr (c e)
  ·exact .inl e
def N1{m:Md}{L:Lck}(hm:bo m)(hL:L.mem.length<=140737488351232):Cl ah 57 [.t (bk m),.t (.agg (jM L))] [] (.t (.bool (dq m L))) []:=by
 have G:=N5 (C:=L.mem) (fit:=fun o=>decide (o=L.a)||decide (o=L.b)) (cap:=.tp (jM L)) hm hL (fun x _ _=>NZ L _);have al:=mU m.ops;have an:=hm.ops;obtain⟨M,hM⟩:∃b,gD m (fun o=>decide (o=L.a)||decide (o=L.b)) L.mem=b:=⟨_,rfl⟩;have e0:dq m L=((decide (0<=L.a)&&(decide (L.a<=L.b)&&decide (L.b <m.ops.length)))&&(jQ m L&&M)):=by unfold dq;rw[hM]
 rw[hM]at G;rw[e0];have y:=fun D h1=>Ft (o:=L.a) (k:=L.pa) hm D h1;have z:=fun D h1=>Ft (o:=L.b) (k:=L.pb) hm D h1;rw[aS]at G y z⊢;rw[mK]at G⊢;refine Cl.aq rfl Tryz.func57 rfl rfl rfl ?_;by_cases h:(0<=L.a/\L.a<=L.b)/\L.b <m.ops.length
 ·
  obtain⟨⟨D,h1⟩,h2⟩:=h;rw[decide_eq_true D,decide_eq_true h1,decide_eq_true h2,Bool.true_and,Bool.true_and,Bool.true_and];have y:=y D (by omega);have z:=z (by omega) h2;by_cases hp:L.pa= -1/\L.pb= -1
  ·
   obtain⟨ab,ad⟩:=hp;have ai:jQ m L=true:=by unfold jQ;rw[decide_eq_true ab,decide_eq_true ad];rfl
   rw[ai,Bool.true_and];exact ae
  ·
   have v:=Fj (m:=m) hp;obtain⟨S1,J⟩:∃s,gW m L.a L.pa=s:=⟨_,rfl⟩;obtain⟨S2,U⟩:∃s,gW m L.b L.pb=s:=⟨_,rfl⟩;rw[J]at y v;rw[U]at z v;by_cases u:0<=S1/\S1=S2/\(L.a=L.b->L.pa=L.pb)
   ·
    rw[v.2 u,Bool.true_and];obtain⟨q1,q2,q3⟩:=u;by_cases V:L.a=L.b
    ·
     have q4:=q3 V
     repeat'(first
|(refine aY ?_)
|(refine ar ?_)
|((with_reducible apply aa.aB);(case hW=>exact rfl);(case hx=>first
|(exact ap z)
|exact af))
|((with_reducible apply aa.u0);(case hx=>first
|(exact ap y)
|(exact ap G)
|exact af))
|fail)
     all_goals first
      |exact⟨.inr rfl,rfl⟩
      |(exfalso;apply hp;constructor <;>omega)
    ·
     repeat'(first
|(refine aY ?_)
|((with_reducible apply aa.gm)<;>intro u)
|(refine ar ?_)
|((with_reducible apply aa.aB);(case hW=>exact rfl);(case hx=>first
|(exact ap z)
|exact af))
|((with_reducible apply aa.u0);(case hx=>first
|(exact ap y)
|(exact ap G)
|exact af))
|fail)
     all_goals first
      |exact⟨.inr rfl,rfl⟩
      |(exfalso;apply hp;constructor <;>omega)
   ·
    have ag:jQ m L=false:=by rw[<- Bool.not_eq_true,v];exact u
    rw[ag,Bool.false_and]
    repeat'(first
|(refine aY ?_)
|((with_reducible apply aa.aX)<;>intro u)
|((with_reducible apply aa.gm)<;>intro u)
|((with_reducible apply aa.fj)<;>intro u)
|(refine ar ?_)
|((with_reducible apply aa.aB);(case hW=>exact rfl);(case hx=>first
|(exact ap z)
|exact af))
|((with_reducible apply aa.u0);(case hx=>first
|(exact ap y)
|exact af))
|fail)
    all_goals first
     |exact⟨.inr rfl,rfl⟩
     |(exfalso;apply hp;constructor <;>omega)
     |(exfalso;apply u;refine⟨by omega,by omega,fun _=>by omega⟩)
 ·
  have Z:(decide (0<=L.a)&&(decide (L.a<=L.b)&&decide (L.b <(m.ops.length:Int))))=false:=by
   rw[<- Bool.not_eq_true,Bool.and_eq_true,Bool.and_eq_true,decide_eq_true_eq,decide_eq_true_eq,decide_eq_true_eq];exact fun I=>h ⟨⟨I.1,I.2.1⟩,I.2.2⟩
  rw[Z,Bool.false_and]
  repeat'(first
|((with_reducible apply aa.ee);(case hp=>exact aA))
|((with_reducible apply aa.aX)<;>intro u)
|((with_reducible apply aa.bi)<;>intro u)
|(refine ar ?_)
|((with_reducible apply aa.aB);(case hW=>exact rfl);(case hx=>exact af))
|((with_reducible apply aa.u0);(case hx=>exact af))
|fail)
  all_goals first
   |exact⟨.inr rfl,rfl⟩
   |(exfalso;apply h;refine⟨⟨?_,?_⟩,?_⟩<;>omega)
def Oh{m:Md}{x:Mem}{o:Int}(hm:bo m)(hi:bC m x.act=true):Cl ah 68 [.t (.agg (io x)),.t (.tp (eD m)),.t (.tp [.int .i64 o])] [] (.t (.bool (decide (bg m x.act=o)))) []:=by
 have y:=fN m.au;have z:=hm.au;obtain⟨D,h1⟩:=eC.1 hi;obtain⟨a,u⟩:=aj (xs:=m.au) (k:=x.act.toNat) (by omega);have G:=ei u;rw[jm u,tY,oS];refine Cl.aq rfl Tryz.func68 rfl rfl rfl ?_;by_cases v:a.op=o
 ·
  rw[decide_eq_true v];exact ae
 ·
  rw[decide_eq_false v];exact ae
def Oi{m:Md}{p:Pln}{o:Int}(hm:bo m)(hl:p.places.length<=140737488351232)(hi:∀x∈p.places,bC m x.act=true):Cl ah 66 [.t (.int .i64 o),.t (.tp [.fn (.func 58) 0 [.tp (eD m)]]),.t (.tp (ui p)),.t (.tp (eD m))] [] (.t (.bool (!(fg m o&&!(p.places.any fun x=>decide (bg m x.act=o)))))) []:=by
 have v:=Fo hm o;have u:=JA (C:=p.places) (p:=fun x=>decide (bg m x.act=o)) (c1:=.tp (eD m)) (c2:=.tp [.int .i64 o]) hl (fun x hx=>Oh hm (hi x hx));obtain⟨a,y⟩:∃b,fg m o=b:=⟨_,rfl⟩;obtain⟨b,z⟩:∃b,(p.places.any fun x=>decide (bg m x.act=o))=b:=⟨_,rfl⟩;rw[y]at v⊢;rw[z]at u⊢;rw[oS]at v u⊢;rw[bt];refine Cl.aq rfl Tryz.func66 rfl rfl rfl ?_
 cases a with
 |false=>
  exact ae
 |true=>
  repeat'(first
|(refine ar ?_)
|((with_reducible apply aa.aB);(case hW=>exact rfl);(case hx=>first
|(exact ap u)
|exact af))
|((with_reducible apply aa.u0);(case hx=>first
|(exact ap v)
|exact af))
|fail)
  refine a_ (.inr rfl) rfl ?_;cases b <;>rfl
def lD(m:Md)(x:bI):Bool:=(decide (0<=x.bz)&&decide (x.bz <m.cons.length))&&decide ((m.cons.getD x.bz.toNat lg).kind=0)
def C0{m:Md}{x:bI}:lD m x=true↔(0<=x.bz/\x.bz <m.cons.length)/\(m.cons.getD x.bz.toNat lg).kind=0:=by
 unfold lD;simp only[Bool.and_eq_true,decide_eq_true_eq]
def Oj{m:Md}{p:Pln}(hm:bo m)(ag:∀a∈m.au,iB a.eff)(ai:m.ops.length<=4398046511104)(hp:ml p):Cl ah 28 [.t (bk m),.t (aN p)] [] (.t (.bool (cX m p))) []:=by
 have kv:=z_ hm ag ai;have a8:=kE p.ao;have bb:=nK p.aD;have be:=kU p.places;have bd:=aO p.bh;have a6:=nx m.cons;have bf:=hm.cons;have av:=hp.ao;have aG:=hp.aD;have aR:=hp.places;have aJ:=hp.bh;have kl:=fun(L:Lck) (h:L∈p.aD)=>N1 (L:=L) hm (by have:=hp.mem L h;omega);have al:=OW (C:=p.ao) (f:=bI.bz) (by omega) (fun x _=>NS x);have an:=OX (C:=p.bh) (f:=id) (by omega) (fun x _=>NU x);have kM:=N6 (C:=p.places) (fit:=fg m) (cap:=.tp (eD m)) hm (by omega) (fun x _ _=>Fo hm _);obtain⟨mv,y⟩:∃b,b7 m=b:=⟨_,rfl⟩;obtain⟨R1,G⟩:∃b,cq bI.bz p.ao=b:=⟨_,rfl⟩;obtain⟨z,I⟩:∃b,cq jN p.aD=b:=⟨_,rfl⟩;obtain⟨M,hM⟩:∃b,gD m (fg m) p.places=b:=⟨_,rfl⟩;obtain⟨R3,J⟩:∃b,cq id p.bh=b:=⟨_,rfl⟩;obtain⟨N,hN⟩:∃b,(p.bh.any fun o=>!(fg m o&&!(p.places.any fun x=>decide (bg m x.act=o))))=b:=⟨_,rfl⟩
 have e0:cX m p=((mv&&decide (p.aD.length<=64))&&((p.ao.drop 0).all (lD m)&&((p.aD.drop 0).all (dq m)&&(((R1&&z)&&(M&&R3))&&!N)))):=by
  have e1:cX m p=((b7 m&&decide (p.aD.length<=64))&&(((cq bI.bz p.ao&&p.ao.all (lD m))&&(p.aD.all (dq m)&&cq jN p.aD))&&(gD m (fg m) p.places&&(cq id p.bh&&p.bh.all fun o=>fg m o&&!p.places.any fun x=>decide (bg m x.act=o))))):=rfl;rw[e1,pD (fun o=>fg m o&&!p.places.any fun x=>decide (bg m x.act=o)) p.bh,y,G,I,hM,J,hN];show _=((mv&&decide (p.aD.length<=64))&&(p.ao.all (lD m)&&(p.aD.all (dq m)&&(((R1&&z)&&(M&&R3))&&!N))))
  generalize decide (p.aD.length<=64)=d;generalize p.ao.all (lD m)=d1;generalize p.aD.all (dq m)=d2;cases mv <;>cases d <;>cases d1 <;>cases d2 <;>cases R1 <;>cases z <;>cases M <;>cases R3 <;>cases N <;>rfl
 rw[y]at kv;rw[G]at al;rw[J]at an;rw[hM]at kM
 have kN:M=true->Cl ah 11 [.t (ay p.bh),.t (.fn (.func 66) 0 [.tp [.fn (.func 58) 0 [.tp (eD m)]],.tp (ui p),.tp (eD m)])] [] (.t (.bool N)) []:=fun h=>by
  rw[<- hN];refine JB (C:=p.bh) (by omega) (fun o _=>Oi hm (by omega) fun x hx=>?_);rw[<- hM]at h;unfold gD at h;rw[Bool.and_eq_true]at h;have:=List.all_eq_true.1 h.2 x hx;rw[Bool.and_eq_true]at this;exact this.1
 have ad:mv=true->(∀L∈p.aD,dq m L=true)->Cl ah 61 [.t (.arr (dO p.aD)),.t (.fn (.func 62) 0 [])] [] (.t (.bool z)) []:=fun h hk=>by
  rw[<- I];refine OY (by omega) fun x hx=>N0 ?_;have h1:=mM.1 (hk x hx);have h8:=E_ (y.trans h);have:=h1.a0;have:=h1.ab;have:=h1.b;omega
 rw[e0];unfold aN;rw[aS]at kv kl kM⊢;rw[oS]at kM kN;rw[bt]at kN⊢;refine Cl.aq rfl Tryz.func28 rfl rfl rfl ?_
 cases mv with
 |false=>
  rw[Bool.false_and,Bool.false_and];exact ae
 |true=>
  by_cases D:p.aD.length<=64
  ·
   rw[decide_eq_true D,Bool.true_and,Bool.true_and];refine ak ?_;refine ax.ind (fun q:Nat=>[(22,.t (.int .i64 (q:Int)))]) (fun q=>q<=p.ao.length/\(p.ao.drop 0).all (lD m)=(p.ao.drop q).all (lD m)) (fun q=>p.ao.length - q) 0 rfl ⟨by omega,rfl⟩ (fun q hq=>?_);obtain⟨h1,h2⟩:=hq;rw[h2];rcases Nat.lt_or_ge q p.ao.length with h3|h3
   ·
    obtain⟨x,hx⟩:=aj h3;have hc:=oD hx;have v:=i_ (lD m) hx;rw[v];by_cases hg:0<=x.bz/\x.bz <m.cons.length
    ·
     obtain⟨g1,g2⟩:=hg;obtain⟨c,V⟩:=aj (xs:=m.cons) (k:=x.bz.toNat) (by omega);have a1:=mB V;have u:=C0 (m:=m) (x:=x);rw[List.getD_eq_getElem?_getD,V,Option.getD_some]at u;by_cases hk:c.kind=0
     ·
      rw[u.2 ⟨⟨g1,g2⟩,hk⟩,Bool.true_and];exact ae
     ·
      have hf:lD m x=false:=by rw[<- Bool.not_eq_true,u];exact fun h=>hk h.2
      rw[hf,Bool.false_and,Bool.false_and];exact ae
    ·
     have hf:lD m x=false:=by rw[<- Bool.not_eq_true,C0];exact fun h=>hg h.1
     rw[hf,Bool.false_and,Bool.false_and]
     repeat'(first
|(refine aY ?_)
|((with_reducible apply aa.aX)<;>intro hq)
|(refine ar ?_)
|((with_reducible apply aa.aB);(case hW=>exact rfl);(case hx=>exact af))
|((with_reducible apply aa.u0);(case hx=>exact af))
|fail)
     all_goals first
      |exact⟨.inr rfl,rfl⟩
      |(exfalso;apply hg;constructor <;>omega)
   ·
    rw[g_ _ h3,Bool.true_and];refine ak ?_;refine ax.ind (fun q:Nat=>[(51,.t (.int .i64 (q:Int)))]) (fun q=>q<=p.aD.length/\(p.aD.drop 0).all (dq m)=(p.aD.drop q).all (dq m)/\(p.aD.take q).all (dq m)=true) (fun q=>p.aD.length - q) 0 rfl ⟨by omega,rfl,by simp⟩ (fun q hq=>?_);obtain⟨g1,g2,g4⟩:=hq;rw[g2];rcases Nat.lt_or_ge q p.aD.length with g3|g3
    ·
     obtain⟨L,hL⟩:=aj g3;have aV:=mL hL;have kL:=kl L (List.mem_of_getElem? hL);have v:=i_ (dq m) hL;have Z:=fun hb=>qW g4 hL hb;rw[v];obtain⟨b,hb⟩:∃b,dq m L=b:=⟨_,rfl⟩;rw[hb]at kL Z⊢;rw[mK]at kL
     cases b with
     |false=>
      rw[Bool.false_and,Bool.false_and];exact ae
     |true=>
      rw[Bool.true_and];refine ak ?_;exact⟨q+1,rfl,rfl,⟨by omega,rfl,Z rfl⟩,by omega⟩
    ·
     have U:=sO g4 g3;have ad:=ad rfl (List.all_eq_true.1 U);rw[g_ _ g3,Bool.true_and]
     cases R1 with
     |false=>
      exact ae
     |true=>
      cases z with
      |false=>
       exact ae
      |true=>
       cases M with
       |false=>
        exact ae
       |true=>
        have kN:=kN rfl
        cases R3 with
        |false=>
         exact ae
        |true=>
         exact ae
  ·
   rw[decide_eq_false D];exact ae
end Go.Proofs.YtjolgbkkocjpgaaGreatDoor
