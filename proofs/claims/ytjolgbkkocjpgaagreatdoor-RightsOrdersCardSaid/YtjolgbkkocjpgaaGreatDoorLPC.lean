/- What the code's plans ask of actions,as contracts. No condition. -/
import Derived.Test.YtjolgbkkocjpgaaGreatDoorTLP
import Derived.Test.YtjolgbkkocjpgaaGreatDoorTP
set_option linter.defProp false
set_option linter.unusedSimpArgs false
set_option linter.unusedVariables false
set_option linter.unusedSectionVars false
namespace Go.Proofs.YtjolgbkkocjpgaaGreatDoor
open Go.RowKit
set_option maxRecDepth 100000
set_option maxHeartbeats 32000000
def O0{σ:Nat->Option Nat}{ks:List AV}{n:Nat}{b v:Lb}{bs u:Fr}(hb:b=v)(h:bs=u):(b::Lb.map false ks (SV.cN σ (dP n))::bs)=v::Lb.map false ks (dP n)::u:=by rw[zn,qd,hb,h]
def mb(l:List Mem)(q:Nat):List Int:=(l.take q).map (·.act)
def O1{l:List Mem}{q:Nat}{x:Mem}(h:l[q]?=some x):cW (mb l q)++[.int .i64 x.act]=cW (mb l (q+1)):=by unfold mb cW;rw[List.take_add_one,h];simp
def O2{l:List Mem}(hr:cu Mem.act l=true){q:Nat}{x:Mem}(h:l[q]?=some x):((mb l q).any fun u=>decide (u=x.act))=false:=by
 rw[<- Bool.not_eq_true,List.any_eq_true];rintro⟨u,I,G⟩;rw[decide_eq_true_eq]at G;obtain⟨y,J,rfl⟩:=List.mem_map.1 I;obtain⟨j,z⟩:=List.mem_iff_getElem?.1 J
 have v:j <q:=by
  have:=(List.getElem?_eq_some_iff.1 z).1;rw[List.length_take]at this;omega
 rw[List.getElem?_take,if_pos v]at z;have D:=List.pairwise_iff_getElem.1 (so.1 hr) j q (List.getElem?_eq_some_iff.1 z).1 (List.getElem?_eq_some_iff.1 h).1 v;rw[(List.getElem?_eq_some_iff.1 z).2,(List.getElem?_eq_some_iff.1 h).2]at D;have D:y.act <x.act:=D;omega
def Fj{L:Lck}{k:Int}:((mb L.mem L.mem.length).any fun u=>decide (u=k))=gw L k:=by unfold mb gw;rw[List.take_length,List.any_map];rfl
def O3{L:Lck}{k:Int}(y:L.mem.length<=140737488351232)(hr:cu Mem.act L.mem=true):Cl ai 109 [.t (.agg (j1 L)),.t (.int .i64 k)] [] (.t (.bool (gw L k))) []:=by
 have v:=n8 L.mem;rw[oc];refine Cl.ao rfl Tryz.func109 rfl rfl rfl ?_;refine ar ?_;refine aC.cB (fun q:Nat=>[(12,.t (.int .i64 (q:Int)))]) (fun q=>[.box false 71 (([.int .i64 L.a,.int .i64 L.b,.int .i64 L.pa,.int .i64 L.pb,.arr (cK L.mem)]:List AV).map .t),.map false (cW (mb L.mem q)) (dP q)]) (fun q=>q<=L.mem.length) (fun q=>L.mem.length - q) 0 rfl rfl (by omega) (fun q h1=>?_);rcases Nat.lt_or_ge q L.mem.length with h3|h3
 ·
  obtain⟨x,hx⟩:=am h3;have hc:=qP hx;have hf:=vH (O2 hr hx);have hks:=O1 hx;have hvs:=vI q
  repeat'(first
|(with_reducible first|apply ac.seq|apply ac.block)
|((with_reducible apply ac.text);(try case hm=>exact rfl))
|(with_reducible first|apply ac.skip|apply az)
|((with_reducible apply ac.aA);(case hc=>exact rfl))
|((with_reducible apply aa.aE);(case hp=>exact aj))
|(with_reducible first|apply aa.ap|apply aa.bj)
|((with_reducible apply aa.u0);(case hx=>first
|((with_reducible apply ae.px);(case hs=>exact fun _=>rfl);(case hm|ha|hk|hd|hy|hb=>exact rfl);(case hf=>exact hf);(case hks=>exact hks);(case hvs=>exact hvs);(case hfr=>exact leq))
|exact ah))
|fail)
  exact⟨q+1,rfl,O0 rfl rfl,by omega,by omega⟩
 ·
  obtain rfl:q=L.mem.length:=by omega
  cases hp:gw L k with
  |true=>
   obtain⟨j,hf,u⟩:=D2 (s:=k) (N:=mb L.mem L.mem.length) (by rw[Fj];exact hp);have hz:=sM (n:=L.mem.length) (j:=j) (by unfold mb at u;simpa using u)
   repeat'(first
|(with_reducible apply ac.seq)
|((with_reducible apply ac.text);(try case hm=>exact rfl))
|(with_reducible first|apply ac.exit|apply ac.ret|apply az|apply cR|apply cS)
|((with_reducible apply ac.aH);(case hc=>exact rfl))
|((with_reducible apply aa.bC);(case hp=>exact aj))
|(with_reducible apply aa.ap)
|((with_reducible apply aa.u0);(case hx=>first
|((with_reducible apply ae.nG);(case hm|hk|ho=>exact rfl);(case hf=>exact hf);(case hz=>exact hz))
|exact ah))
|fail)
   exact⟨.inr rfl,rfl⟩
  |false=>
   have hf:=vH (s:=k) (N:=mb L.mem L.mem.length) (by rw[Fj];exact hp)
   repeat'(first
|(with_reducible apply ac.seq)
|((with_reducible apply ac.text);(try case hm=>exact rfl))
|(with_reducible first|apply ac.exit|apply ac.ret|apply az|apply cR|apply cS)
|((with_reducible apply ac.aH);(case hc=>exact rfl))
|((with_reducible apply aa.bC);(case hp=>exact aj))
|(with_reducible apply aa.ap)
|((with_reducible apply aa.u0);(case hx=>first
|((with_reducible apply ae.lk);(case hm|hk|ho=>exact rfl);(case hf=>exact hf);(case hz=>exact rfl))
|exact ah))
|fail)
   exact⟨.inr rfl,rfl⟩
def O4(x:Mem)(k:Int):Cl ai 155 [.t (.agg (gW x)),.t (.tp [.int .i64 k])] [] (.t (.bool (decide (x.act=k)))) []:=by
 rw[sV];refine Cl.ao rfl Tryz.func155 rfl rfl rfl ?_;by_cases u:x.act=k
 ·
  rw[decide_eq_true u];exact af
 ·
  rw[decide_eq_false u];exact af
def O5{p:Pln}{k:Int}(hl:p.places.length<=140737488351232):Cl ai 112 [.t (ba p),.t (.int .i64 k)] [] (.t (.bool (gU p k))) []:=by
 have u:=N0 (C:=p.places) (p:=fun x=>decide (x.act=k)) (c1:=.tp [.int .i64 k]) hl (fun x _=>O4 x k);unfold ba gU;rw[bX];generalize(p.places.any fun x=>decide (x.act=k))=b at*
 refine Cl.ao rfl Tryz.func112 rfl rfl rfl ?_;exact af
def O6{m:Md}{L:Lck}{k:Int}(hm:bt m)(hk:b9 m k=true):Cl ai 110 [.t (bz m),.t (.agg (j1 L)),.t (.int .i64 k)] [] (.t (.bool (decide (L.a=L.b)||decide (bv m k=L.b)))) []:=by
 have z:=jx m.ay;have D:=hm.ay;obtain⟨G,h1⟩:=ju.1 hk;obtain⟨a,u⟩:=am (xs:=m.ay) (k:=k.toNat) (by omega);have I:=jZ u;rw[sW u,oc,aW];refine Cl.ao rfl Tryz.func110 rfl rfl rfl ?_;by_cases y:L.a=L.b
 ·
  rw[decide_eq_true y];exact af
 ·
  rw[decide_eq_false y];by_cases v:a.op=L.b
  ·
   rw[decide_eq_true v];exact af
  ·
   rw[decide_eq_false v];exact af
def Fk{m:Md}{k:Int}(h:cm m=true)(hk:b9 m k=true){i:Int}(hi:0<=i)(hl:i <(eX m (bv m k)).ak.length):(m.ay.getD k.toNat fk).args[i.toNat]?=some (k_ m k i):=by
 have u:=yL h (ss hk);unfold dB at u;simp only[Bool.and_eq_true,decide_eq_true_eq]at u;have v:=u.1.1.2;unfold k_;exact getD_some (by unfold eX bv at hl;omega)
def O7{m:Md}{L:Lck}{k:Int}(hm:bt m)(hv:cm m=true)(hL:ld m L)(hp:gw L k=true):Cl ai 111 [.t (bz m),.t (.agg (j1 L)),.t (.int .i64 k)] [] (.t (.int .i64 (jW m L k))) []:=by
 have ab:=jx m.ay;have ag:=hm.ay;obtain⟨J,ho⟩:=hL.part hp;obtain⟨h0,h1⟩:=ju.1 J;have U:=ss J;obtain⟨a,u⟩:∃a,m.ay.getD k.toNat fk=a:=⟨_,rfl⟩;rw[u]at U;have hc:=jZ U;have I:bv m k=a.op:=sW U;have ad:=aQ a.args;unfold jW;rw[oc,aW];rcases hL.yK with⟨p1,p2⟩|⟨⟨p1,V⟩,⟨p2,Z⟩,_⟩
 ·
  rw[if_pos (by omega)];refine Cl.ao rfl Tryz.func111 rfl rfl rfl ?_;exact af
 ·
  rw[if_neg (by omega)];by_cases D:bv m k=L.a
  ·
   rw[if_pos D];have G:=Fk hv J (i:=L.pa) p1 (by rw[D];exact V);rw[u]at G;have y:=aU G;rw[I]at D;obtain⟨v,z⟩:∃v,k_ m k L.pa=v:=⟨_,rfl⟩;rw[z]at y⊢;refine Cl.ao rfl Tryz.func111 rfl rfl rfl ?_;exact af
  ·
   rw[if_neg D];have hb:bv m k=L.b:=by omega
   have G:=Fk hv J (i:=L.pb) p2 (by rw[hb];exact Z);rw[u]at G;have y:=aU G;rw[I]at D;obtain⟨v,z⟩:∃v,k_ m k L.pb=v:=⟨_,rfl⟩;rw[z]at y⊢;refine Cl.ao rfl Tryz.func111 rfl rfl rfl ?_
   repeat'(first
|(with_reducible first|apply ac.seq|apply ac.block)
|((with_reducible apply ac.text);(try case hm=>exact rfl))
|(with_reducible first|apply ac.skip|apply ac.ret|apply az|apply bk)
|((with_reducible apply ac.aH);(case hc=>exact rfl))
|((with_reducible apply aa.bC);(case hp=>exact aj))
|(with_reducible apply aa.ap)
|((with_reducible apply aa.u0);(case hx=>exact ah))
|fail)
   exact⟨.inr rfl,rfl⟩
structure PW (m:Md) (p:Pln):Prop where
 md:bt m
 ef:∀a∈m.ay,iC a.eff
 op:m.ops.length<=4398046511104
 pl:n9 p
def PW.v{m:Md}{p:Pln}(h:PW m p):Cl ai 28 [.t (bz m),.t (ba p)] [] (.t (.bool (dD m p))) []:=OZ h.md h.ef h.op h.pl
end Go.Proofs.YtjolgbkkocjpgaaGreatDoor
