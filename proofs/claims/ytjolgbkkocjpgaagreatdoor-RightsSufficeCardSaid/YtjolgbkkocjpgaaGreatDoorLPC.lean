/- What the code's plans ask of actions,as contracts. No condition. -/
import Derived.Test.YtjolgbkkocjpgaaGreatDoorTLP
import Derived.Test.YtjolgbkkocjpgaaGreatDoorTP
set_option linter.all false
namespace Go.Proofs.YtjolgbkkocjpgaaGreatDoor
open Go.RowKit
set_option maxRecDepth 100000
set_option maxHeartbeats 32000000
def KW{σ:Nat->Option Nat}{ks:List AV}{n:Nat}{b v:Lb}{bs u:Fr}(hb:b=v)(h:bs=u):(b::Lb.map false ks (SV.cM σ (eh n))::bs)=v::Lb.map false ks (eh n)::u:=by rw[BC,sx,hb,h]
def mw(l:List Mem)(q:Nat):List Int:=(l.take q).map (·.act)
def HS{l:List Mem}{q:Nat}{x:Mem}(h:l[q]?=some x):cY (mw l q)++[.int .i64 x.act]=cY (mw l (q+1)):=by unfold mw cY;rw[List.take_add_one,h];simp
def HR{l:List Mem}(hr:cq Mem.act l=true){q:Nat}{x:Mem}(h:l[q]?=some x):((mw l q).any fun u=>decide (u=x.act))=false:=by
 rw[<- Bool.not_eq_true,List.any_eq_true];rintro⟨u,I,G⟩;rw[decide_eq_true_eq]at G;obtain⟨y,J,rfl⟩:=List.mem_map.1 I;obtain⟨j,z⟩:=List.mem_iff_getElem?.1 J
 have v:j <q:=by
  have:=(List.getElem?_eq_some_iff.1 z).1;rw[List.length_take]at this;omega
 rw[List.getElem?_take,if_pos v]at z;have D:=List.pairwise_iff_getElem.1 (uo.1 hr) j q (List.getElem?_eq_some_iff.1 z).1 (List.getElem?_eq_some_iff.1 h).1 v;rw[(List.getElem?_eq_some_iff.1 z).2,(List.getElem?_eq_some_iff.1 h).2]at D;have D:y.act <x.act:=D;omega
def BO{L:Lck}{k:Int}:((mw L.mem L.mem.length).any fun u=>decide (u=k))=fD L k:=by unfold mw fD;rw[List.take_length,List.any_map];rfl
def Ob{L:Lck}{k:Int}(y:L.mem.length<=140737488351232)(hr:cq Mem.act L.mem=true):Cl ah 109 [.t (.agg (jM L)),.t (.int .i64 k)] [] (.t (.bool (fD L k))) []:=by
 have v:=kU L.mem;rw[mK];refine Cl.aq rfl Tryz.func109 rfl rfl rfl ?_;refine ak ?_;refine ax.cA (fun q:Nat=>[(12,.t (.int .i64 (q:Int)))]) (fun q=>[.box false 71 (([.int .i64 L.a,.int .i64 L.b,.int .i64 L.pa,.int .i64 L.pb,.arr (cw L.mem)]:List AV).map .t),.map false (cY (mw L.mem q)) (eh q)]) (fun q=>q<=L.mem.length) (fun q=>L.mem.length - q) 0 rfl rfl (by omega) (fun q h1=>?_);rcases Nat.lt_or_ge q L.mem.length with h3|h3
 ·
  obtain⟨x,hx⟩:=aj h3;have z:=iQ hx;have hf:=vQ (HR hr hx);have hks:=HS hx;have hvs:=x_ q
  repeat'(first
|((with_reducible apply aa.aR);(case hp=>exact aA))
|(refine ar ?_)
|((with_reducible apply aa.u0);(case hx=>first
|((with_reducible apply ac.qs);(case hs=>exact fun _=>rfl);(case hm|ha|hk|hd|hy|hb=>exact rfl);(case hf=>exact hf);(case hks=>exact hks);(case hvs=>exact hvs);(case hfr=>exact leq))
|exact af))
|fail)
  exact⟨q+1,rfl,KW rfl rfl,by omega,by omega⟩
 ·
  obtain rfl:q=L.mem.length:=by omega
  cases hp:fD L k with
  |true=>
   obtain⟨j,hf,u⟩:=Dg (s:=k) (N:=mw L.mem L.mem.length) (by rw[BO];exact hp);have hz:=uH (n:=L.mem.length) (j:=j) (by unfold mw at u;simpa using u)
   repeat'(first
|((with_reducible apply aa.cQ);(case hp=>exact aA))
|(refine ar ?_)
|((with_reducible apply aa.u0);(case hx=>first
|((with_reducible apply ac.oQ);(case hm|hk|ho=>exact rfl);(case hf=>exact hf);(case hz=>exact hz))
|exact af))
|fail)
   exact⟨.inr rfl,rfl⟩
  |false=>
   have hf:=vQ (s:=k) (N:=mw L.mem L.mem.length) (by rw[BO];exact hp)
   repeat'(first
|((with_reducible apply aa.cQ);(case hp=>exact aA))
|(refine ar ?_)
|((with_reducible apply aa.u0);(case hx=>first
|((with_reducible apply ac.lk);(case hm|hk|ho=>exact rfl);(case hf=>exact hf);(case hz=>exact rfl))
|exact af))
|fail)
   exact⟨.inr rfl,rfl⟩
def N9(x:Mem)(k:Int):Cl ah 155 [.t (.agg (io x)),.t (.tp [.int .i64 k])] [] (.t (.bool (decide (x.act=k)))) []:=by
 rw[tY];refine Cl.aq rfl Tryz.func155 rfl rfl rfl ?_;by_cases u:x.act=k
 ·
  rw[decide_eq_true u];exact ae
 ·
  rw[decide_eq_false u];exact ae
def N8{p:Pln}{k:Int}(hl:p.places.length<=140737488351232):Cl ah 112 [.t (aN p),.t (.int .i64 k)] [] (.t (.bool (eH p k))) []:=by
 have u:=Js (C:=p.places) (p:=fun x=>decide (x.act=k)) (c1:=.tp [.int .i64 k]) hl (fun x _=>N9 x k);unfold aN eH;rw[bt];generalize(p.places.any fun x=>decide (x.act=k))=b at*
 refine Cl.aq rfl Tryz.func112 rfl rfl rfl ?_;exact ae
def Ok{m:Md}{L:Lck}{k:Int}(hm:bo m)(hk:bC m k=true):Cl ah 110 [.t (bk m),.t (.agg (jM L)),.t (.int .i64 k)] [] (.t (.bool (decide (L.a=L.b)||decide (bg m k=L.b)))) []:=by
 have z:=fN m.au;have D:=hm.au;obtain⟨G,h1⟩:=eC.1 hk;obtain⟨a,u⟩:=aj (xs:=m.au) (k:=k.toNat) (by omega);have I:=ei u;rw[jm u,mK,aS];refine Cl.aq rfl Tryz.func110 rfl rfl rfl ?_;by_cases y:L.a=L.b
 ·
  rw[decide_eq_true y];exact ae
 ·
  rw[decide_eq_false y];by_cases v:a.op=L.b
  ·
   rw[decide_eq_true v];exact ae
  ·
   rw[decide_eq_false v];exact ae
def u6{m:Md}{k:Int}(h:b7 m=true)(hk:bC m k=true){i:Int}(hi:0<=i)(hl:i <(eG m (bg m k)).ai.length):(m.au.getD k.toNat fv).args[i.toNat]?=some (jz m k i):=by
 have u:=uY h (pA hk);unfold dA at u;simp only[Bool.and_eq_true,decide_eq_true_eq]at u;have v:=u.1.1.2;unfold jz;exact getD_some (by unfold eG bg at hl;omega)
def NT{m:Md}{L:Lck}{k:Int}(hm:bo m)(hv:b7 m=true)(hL:iY m L)(hp:fD L k=true):Cl ah 111 [.t (bk m),.t (.agg (jM L)),.t (.int .i64 k)] [] (.t (.int .i64 (jd m L k))) []:=by
 have ab:=fN m.au;have ag:=hm.au;obtain⟨J,ho⟩:=hL.part hp;obtain⟨h0,h1⟩:=eC.1 J;have U:=pA J;obtain⟨a,u⟩:∃a,m.au.getD k.toNat fv=a:=⟨_,rfl⟩;rw[u]at U;have hc:=ei U;have I:bg m k=a.op:=jm U;have ad:=aO a.args;unfold jd;rw[mK,aS];rcases hL.wO with⟨p1,p2⟩|⟨⟨p1,V⟩,⟨p2,Z⟩,_⟩
 ·
  rw[if_pos (by omega)];refine Cl.aq rfl Tryz.func111 rfl rfl rfl ?_;exact ae
 ·
  rw[if_neg (by omega)];by_cases D:bg m k=L.a
  ·
   rw[if_pos D];have G:=u6 hv J (i:=L.pa) p1 (by rw[D];exact V);rw[u]at G;have y:=aW G;rw[I]at D;obtain⟨v,z⟩:∃v,jz m k L.pa=v:=⟨_,rfl⟩;rw[z]at y⊢;refine Cl.aq rfl Tryz.func111 rfl rfl rfl ?_;exact ae
  ·
   rw[if_neg D];have hb:bg m k=L.b:=by omega
   have G:=u6 hv J (i:=L.pb) p2 (by rw[hb];exact Z);rw[u]at G;have y:=aW G;rw[I]at D;obtain⟨v,z⟩:∃v,jz m k L.pb=v:=⟨_,rfl⟩;rw[z]at y⊢;refine Cl.aq rfl Tryz.func111 rfl rfl rfl ?_
   repeat'(first
|((with_reducible apply aa.cQ);(case hp=>exact aA))
|(refine ar ?_)
|((with_reducible apply aa.u0);(case hx=>exact af))
|fail)
   exact⟨.inr rfl,rfl⟩
structure PW (m:Md) (p:Pln):Prop where
 md:bo m
 ef:∀a∈m.au,iB a.eff
 op:m.ops.length<=4398046511104
 pl:ml p
def PW.v{m:Md}{p:Pln}(h:PW m p):Cl ah 28 [.t (bk m),.t (aN p)] [] (.t (.bool (cX m p))) []:=Oj h.md h.ef h.op h.pl
end Go.Proofs.YtjolgbkkocjpgaaGreatDoor
