/- What the code's plans ask of actions: rights,needs,slack,exclusion,as contracts. No condition. -/
import Derived.Test.YtjolgbkkocjpgaaGreatDoorLPC
set_option linter.defProp false
set_option linter.unusedSimpArgs false
set_option linter.unusedVariables false
set_option linter.unusedSectionVars false
namespace Go.Proofs.YtjolgbkkocjpgaaGreatDoor
open Go.RowKit
set_option maxRecDepth 100000
set_option maxHeartbeats 32000000
def Fm(a:eD):pq a=[.int .i64 a.op,ax a.args,.arr (iS a.eff.delta),.arr (iz a.eff.hold),.arr (iA a.eff.bZ)]:=rfl
def zD(r:Rw):e8 r=[.arr (dM r.a_),.int .i64 r.gP]:=rfl
def Fo{n:Nat}{d:List bD}(hd:allI (eV n d) d=true){l:List Tm}(ht:allI (fj n l) l=true){t:Tm}(h:t∈l):(-1000<=t.bN/\t.bN<=1000)/\(-1000000000<=eg d t.cell/\eg d t.cell<=1000000000)/\(-1000000000000<=t.bN*eg d t.cell/\t.bN*eg d t.cell<=1000000000000):=by
 have h1:=(sw ht h).2;have h2:=J_ hd t.cell;have h3:=Dp (A:=1000) (B:=1000000000) h1 h2;omega
def ly(d:List bD)(l:List Tm)(q:Nat):Int:=(l.take q).foldl (fun n t=>n+t.bN*eg d t.cell) 0
def O8{d:List bD}{l:List Tm}{q:Nat}{t:Tm}(h:l[q]?=some t):ly d l (q+1)=ly d l q+t.bN*eg d t.cell:=qi _ _ h
def zE{n:Nat}{d:List bD}(hd:allI (eV n d) d=true){l:List Tm}(ht:allI (fj n l) l=true)(q:Nat): -(1000000000000*(l.length:Int))<=ly d l q/\ly d l q<=1000000000000*(l.length:Int):=by
 have h:=Dq (l:=l.take q) (g:=fun n (t:Tm)=>n+t.bN*eg d t.cell) (B:=1000000000000) (by omega) (fun n t h=>by
  have:=(Fo hd ht (List.mem_of_mem_take h)).2.2
  try dsimp only
  omega) 0
 have u:((l.take q).length:Int)<=l.length:=by rw[List.length_take];omega
 unfold ly;omega
def O9{n:Nat}{a:eD}{r:Rw}(hn:n<=100000)(hd:allI (eV n a.eff.delta) a.eff.delta=true)(ht:allI (fj n r.a_) r.a_=true)(D:a.eff.delta.length<=140737488351232):Cl ai 180 [.t (.agg (pq a)),.t (.agg (e8 r))] [] (.t (.int .i64 (pj a.eff.delta r))) []:=by
 have Z:=l8 r.a_;have ab:=uY ht;have J:pj a.eff.delta r=ly a.eff.delta r.a_ r.a_.length:=by unfold pj ly;rw[List.take_length]
 have z:=fun c=>Mr (a:=a) (c:=c) D;rw[J];rw[zD];rw[Fm]at z⊢;refine Cl.ao rfl Tryz.func180 rfl rfl rfl ?_;refine ar ?_;refine aC.ind (fun q:Nat=>[(5,.t (.int .i64 (ly a.eff.delta r.a_ q))),(11,.t (.int .i64 (q:Int)))]) (fun q=>q<=r.a_.length) (fun q=>r.a_.length - q) 0 rfl (by omega) (fun q h1=>?_);rcases Nat.lt_or_ge q r.a_.length with h3|h3
 ·
  obtain⟨t,y⟩:=am h3;have hc:=mZ y;have z:=z t.cell;obtain⟨b1,G,I⟩:=Fo hd ht (List.mem_of_getElem? y);have hs:=O8 (d:=a.eff.delta) y;have V:=zE hd ht q;have u:=zE hd ht (q+1);rw[hs]at u;obtain⟨v,hv⟩:∃v,eg a.eff.delta t.cell=v:=⟨_,rfl⟩;rw[hv]at z G I hs u;obtain⟨P,U⟩:∃P,ly a.eff.delta r.a_ q=P:=⟨_,rfl⟩;rw[U]at hs V u⊢;refine ar ?_;exact⟨q+1,by rw[hs];rfl,rfl,by omega,by omega⟩
 ·
  obtain rfl:q=r.a_.length:=by omega
  exact af
def vW{m:Md}(h:cm m=true):(bx m.ak m.tables true).length<=128:=by
 unfold cm at h;simp only[Bool.and_eq_true]at h;have u:=h.1.1.1;have v:=sk m.ak true m.tables;unfold bx;rw[if_pos u];unfold bH at u;simp only[Bool.and_eq_true,decide_eq_true_eq]at u;have:=u.2.2.1;omega
def Fp{m:Md}{k:Int}{r:Rw}(h:cm m=true)(hk:b9 m k=true)(hr:cy (bx m.ak m.tables true).length r=true): -128000000000000<=eY m k r/\eY m k r<=128000000000000:=by
 have h1:=zE (yN h hk) (mS hr) r.a_.length;have h2:=uY (mS hr);have h3:=vW h;have e:eY m k r=ly (m.ay.getD k.toNat fk).eff.delta r.a_ r.a_.length:=by unfold eY pj ly;rw[List.take_length]
 rw[e];omega
def O_{m:Md}{k:Int}{r:Rw}(hm:bt m)(y:∀a∈m.ay,iC a.eff)(z:m.ops.length<=4398046511104)(h:cm m=true)(hk:b9 m k=true)(hr:cy (bx m.ak m.tables true).length r=true):Cl ai 154 [.t (bz m),.t (.int .i64 k),.t (.agg (e8 r))] [] (.t (.int .i64 (eY m k r))) []:=by
 have G:=zC hm y z;have I:=jx m.ay;have J:=hm.ay;obtain⟨U,h1⟩:=ju.1 hk;have u:=ss hk;have hd:=yN h hk;unfold eY;obtain⟨a,v⟩:∃a,m.ay.getD k.toNat fk=a:=⟨_,rfl⟩;rw[v]at u hd⊢;have V:=jZ u;have D:=O9 (a:=a) (r:=r) (by have:=vW h;omega) hd (mS hr) (by have:=hm.delta a (List.mem_of_getElem? u);omega);rw[h]at G;rw[Fm]at D;rw[zD]at D⊢;rw[aW]at G⊢;refine Cl.ao rfl Tryz.func154 rfl rfl rfl ?_;exact af
def me(l:List cP):(bW l).length=l.length:=List.length_map _
def vX(l m:List cP):bW l++bW m=bW (l++m):=by unfold bW;rw[List.map_append]
def Fq{m:Md}{x:cn}{c:Cn}(h:m.cons[x.cF.toNat]?=some c):rowOf m x=c.row:=by unfold rowOf;rw[List.getD_eq_getElem?_getD,h];rfl
theorem Fs{m:Md}{k sg:Int}:∀(l:List cn) (i:Nat),(bK m k sg i l).length<=l.length
 |[],_=>by simp[bK]
 |x::l,i=>by
  unfold bK;have:=Fs (m:=m) (k:=k) (sg:=sg) l (i+1);split <;>simp <;>omega
def zF{n:Nat}(h:n<=1000000000000):ca n 32=true:=by simp[ca];omega
def Ft{m:Md}{p:Pln}{k sg:Int}(h:PW m p)(hv:dD m p=true)(hk:b9 m k=true)(hs:sg=1\/sg= -1)(an:p.aw.length<=100000000):Cl ai 108 [.t (bz m),.t (ba p),.t (.int .i64 k),.t (.int .i64 sg)] [] (.ls 0) [.row false false 4 (bW (bK m k sg 0 p.aw))]:=by
 have aD:=py p.aw;have au:=qJ m.cons;have ag:=h.pl.aw;have ad:=h.md.cons;have z:=l6.1 hv;have I:=z.lc;have D:=fun r hr=>O_ (r:=r) h.md h.ef h.op I hk hr;obtain⟨T,hT⟩:∃T,bK m k sg 0 p.aw=T:=⟨_,rfl⟩;rw[hT];unfold ba;rw[aW]at D⊢;rw[bX];refine Cl.ao rfl Tryz.func108 rfl rfl rfl ?_;refine ar ?_;refine aC.cB (fun x:Nat×Bool×List cP=>[(9,.ls 2),(16,.t (.int .i64 (x.1:Int)))]) (fun x=>[.box false 30 (([ax m.ak,.arr (br m.tables),.arr (b5 m.bw),.arr (dN m.cons),.arr (dO m.ops),.arr (de m.ay),.arr (cG m.aI)]:List AV).map .t),.box false 35 (([.arr (fq p.aw),.arr (e_ p.aR),.arr (cK p.places),ax p.bI]:List AV).map .t),.row false x.2.1 4 (bW x.2.2)]) (fun x=>x.1<=p.aw.length/\x.2.2.length<=x.1/\x.2.2++bK m k sg x.1 (p.aw.drop x.1)=T) (fun x=>p.aw.length - x.1) (0,false,[]) rfl rfl ⟨by dsimp only;omega,by simp,hT⟩ (fun x hq=>?_);obtain⟨q,Z,O⟩:=x;dsimp only at hq⊢;obtain⟨h1,ab,h2⟩:=hq;rcases Nat.lt_or_ge q p.aw.length with h3|h3
 ·
  obtain⟨x,hx⟩:=am h3;have hc:=sO hx;obtain⟨⟨g1,g2⟩,_⟩:=z.aw x (List.mem_of_getElem? hx);obtain⟨c,G⟩:=am (xs:=m.cons) (k:=x.cF.toNat) (by omega);have al:=pu G;have y:=z.row (List.mem_of_getElem? hx);have D:=D (rowOf m x) y;have hb:=Fp (k:=k) I hk y;rw[bS hx]at h2;unfold bK at h2;obtain⟨v,V⟩:∃v,eY m k (rowOf m x)=v:=⟨_,rfl⟩;rw[V]at D hb h2;rw[Fq G,zD]at D;have aH : -128000000000000<=sg*v/\sg*v<=128000000000000:=by rcases hs with rfl|rfl <;>omega
  obtain⟨w,hw⟩:∃w,sg*v=w:=⟨_,rfl⟩;have J:ca ((bW O).length+1) 32=true:=by rw[me];exact zF (by omega)
  by_cases h0:0 <sg*v
  ·
   rw[if_pos h0]at h2;have U:bW O++[[.int .i64 0,.int .i64 (q:Int),.int .i64 0,.int .i64 (sg*v)]]=bW (O++[⟨0,(q:Int),0,sg*v⟩]):=(vX O [⟨0,(q:Int),0,sg*v⟩])
   repeat'(first
|(with_reducible first|apply ac.seq|apply ac.block)
|((with_reducible apply ac.text);(try case hm=>exact rfl))
|((with_reducible apply ac.drawn);(case hm=>exact rfl))
|(with_reducible first|apply ac.skip|apply az)
|((with_reducible apply ac.aA);(case hc=>exact rfl))
|((with_reducible apply aa.aE);(case hp=>exact aj))
|(with_reducible first|apply aa.ap|apply aa.bj)
|((with_reducible apply aa.u);(case hx=>((with_reducible apply ae.eP);(case hs=>exact fun _=>rfl);(case ha|ht=>exact rfl);(case hr=>first|(with_reducible exact eH)|(with_reducible exact rw1)|(with_reducible exact eI)|(with_reducible exact rw3)|(with_reducible exact rw4)|exact rfl);(case hx|hy|hn|hb|hok=>exact rfl);(case hlen=>exact J);(case hv=>exact U);(case hk=>exact eQ);(case hf=>exact leq))))
|((with_reducible apply aa.u0);(case hx=>first
|((with_reducible apply ae.mul);(case hx|hy=>exact rfl);(case h=>omega))
|(exact aq D)
|exact ah))
|fail)
   exact⟨(q+1,true,O++[⟨0,(q:Int),0,sg*v⟩]),rfl,rfl,⟨by dsimp only;omega,by simp;omega,by dsimp only;rw[List.append_assoc];exact h2⟩,by dsimp only;omega⟩
  ·
   rw[if_neg h0]at h2;refine ar ?_;exact⟨(q+1,Z,O),rfl,rfl,⟨by dsimp only;omega,by dsimp only;omega,h2⟩,by dsimp only;omega⟩
 ·
  rw[fE h3]at h2;unfold bK at h2;rw[List.append_nil]at h2;subst h2;exact af
def sX(m:Md)(p:Pln)(k R:Int):Bool:=dD m p&&(b9 m k&&(decide (1<=R)&&decide (R<=5)))
def qW{m:Md}{p:Pln}{k R:Int}:sX m p k R=true↔dD m p=true/\(0<=k/\k <m.ay.length)/\1<=R/\R<=5:=by
 unfold sX;rw[Bool.and_eq_true,Bool.and_eq_true,Bool.and_eq_true,ju,decide_eq_true_eq,decide_eq_true_eq]
def zG{m:Md}{p:Pln}{k R:Int}(h:PW m p)(hn:sX m p k R=true)(ad:p.aw.length<=100000000):Cl ai 73 [.t (bz m),.t (ba p),.t (.int .i64 k),.t (.int .i64 R)] [] (.aL [.ls 0,.t (.bool (gU p k))]) [.row false false 4 (bW (cJ m p k R))]:=by
 have kv:=h.v;have bc:=jx m.ay;have be:=h.md.ay;obtain⟨hv,⟨ag,al⟩,a6,a_⟩:=qW.1 hn;have hk:b9 m k=true:=ju.2 ⟨ag,al⟩;have z:=l6.1 hv;have bd:=vJ p.aR;have a1:=h.pl.aR;have bb:=z.fo;have kc:=Ft (sg:=1) h hv hk (.inl rfl) ad;have kp:=O5 (p:=p) (k:=k) (by have:=h.pl.places;omega);have J:=fun(L:Lck) (V:L∈p.aR)=>O3 (L:=L) (k:=k) (by have:=h.pl.mem L V;omega) (sq.1 (z.lock L V)).J0;have G:=fun(L:Lck)=>O6 (L:=L) (k:=k) h.md hk;have D:=fun(L:Lck) (V:L∈p.aR) (hb:gw L k=true)=>O7 (L:=L) (k:=k) h.md z.lc (sq.1 (z.lock L V)) hb;have an:=Fs (m:=m) (k:=k) (sg:=1) p.aw 0;obtain⟨C,hC⟩:∃C,bK m k 1 0 p.aw=C:=⟨_,rfl⟩;have e0:cJ m p k R=C++eh m k R 0 p.aR:=by unfold cJ;rw[hC]
 obtain⟨T,hT⟩:∃T,C++eh m k R 0 p.aR=T:=⟨_,rfl⟩;rw[e0,hT];rw[hC]at kc an;rw[hv]at kv;obtain⟨pb,au⟩:∃b,gU p k=b:=⟨_,rfl⟩;rw[au]at kp⊢;unfold ba at kv kc kp⊢;rw[aW]at kv kc G D⊢;rw[bX]at kv kc kp⊢;refine Cl.ao rfl Tryz.func73 rfl rfl rfl ?_;refine ar ?_;refine aC.cB (fun x:Nat×Bool×List cP=>[(10,.ls 2),(44,.t (.int .i64 (x.1:Int)))]) (fun x=>[.box false 30 (([ax m.ak,.arr (br m.tables),.arr (b5 m.bw),.arr (dN m.cons),.arr (dO m.ops),.arr (de m.ay),.arr (cG m.aI)]:List AV).map .t),.box false 35 (([.arr (fq p.aw),.arr (e_ p.aR),.arr (cK p.places),ax p.bI]:List AV).map .t),.row false x.2.1 4 (bW x.2.2)]) (fun x=>x.1<=p.aR.length/\x.2.2.length<=C.length+x.1/\x.2.2++eh m k R x.1 (p.aR.drop x.1)=T) (fun x=>p.aR.length - x.1) (0,false,C) rfl rfl ⟨by dsimp only;omega,by dsimp only;omega,hT⟩ (fun x hq=>?_);obtain⟨q,aD,O⟩:=x;dsimp only at hq⊢;obtain⟨h1,aS,h2⟩:=hq;rcases Nat.lt_or_ge q p.aR.length with h3|h3
 ·
  obtain⟨L,hx⟩:=am h3;have y:=List.mem_of_getElem? hx;have hc:=sP hx;have J:=J L y;have G:=G L;have D:=D L y;have ab:=sq.1 (z.lock L y);rw[bS hx]at h2;unfold eh at h2;have U:ca ((bW O).length+1) 32=true:=by rw[me];exact zF (by omega)
  rw[oc]at J G D
  cases hb:gw L k with
  |true=>
   have D:=D hb;rw[ab.write hb]at G;rw[hb]at J;rw[hb,if_pos rfl]at h2;obtain⟨E,hE⟩:∃E,jW m L k=E:=⟨_,rfl⟩;rw[hE]at D h2
   cases Z:l5 m L k with
   |true=>
    rw[Z]at G;rw[Z,if_pos rfl]at h2;have I:bW O++[[.int .i64 1,.int .i64 (q:Int),.int .i64 E,.int .i64 R]]=bW (O++[⟨1,(q:Int),E,R⟩]):=(vX O [⟨1,(q:Int),E,R⟩])
    repeat'(first
|(with_reducible first|apply ac.seq|apply ac.block)
|((with_reducible apply ac.text);(try case hm=>exact rfl))
|(with_reducible first|apply ac.skip|apply az)
|((with_reducible apply ac.aA);(case hc=>exact rfl))
|((with_reducible apply ac.aH);(case hc=>exact rfl))
|((with_reducible apply aa.aE);(case hp=>exact aj))
|(with_reducible first|apply aa.ap|apply aa.bj)
|((with_reducible apply aa.u);(case hx=>((with_reducible apply ae.eP);(case hs=>exact fun _=>rfl);(case ha|ht=>exact rfl);(case hr=>first|(with_reducible exact eH)|(with_reducible exact rw1)|(with_reducible exact eI)|(with_reducible exact rw3)|(with_reducible exact rw4)|exact rfl);(case hx|hy|hn|hb|hok=>exact rfl);(case hlen=>exact U);(case hv=>exact I);(case hk=>exact eQ);(case hf=>exact leq))))
|((with_reducible apply aa.u0);(case hx=>first
|(exact aq J)
|(exact aq G)
|(exact aq D)
|exact ah))
|fail)
    exact⟨(q+1,true,O++[⟨1,(q:Int),E,R⟩]),rfl,rfl,⟨by dsimp only;omega,by simp;omega,by dsimp only;rw[List.append_assoc];exact h2⟩,by dsimp only;omega⟩
   |false=>
    rw[Z]at G;rw[Z,if_neg (by decide)]at h2;have I:bW O++[[.int .i64 1,.int .i64 (q:Int),.int .i64 E,.int .i64 1]]=bW (O++[⟨1,(q:Int),E,1⟩]):=(vX O [⟨1,(q:Int),E,1⟩])
    repeat'(first
|(with_reducible first|apply ac.seq|apply ac.block)
|((with_reducible apply ac.text);(try case hm=>exact rfl))
|(with_reducible first|apply ac.skip|apply az)
|((with_reducible apply ac.aA);(case hc=>exact rfl))
|((with_reducible apply ac.aH);(case hc=>exact rfl))
|((with_reducible apply aa.aE);(case hp=>exact aj))
|(with_reducible first|apply aa.ap|apply aa.bj)
|((with_reducible apply aa.u);(case hx=>((with_reducible apply ae.eP);(case hs=>exact fun _=>rfl);(case ha|ht=>exact rfl);(case hr=>first|(with_reducible exact eH)|(with_reducible exact rw1)|(with_reducible exact eI)|(with_reducible exact rw3)|(with_reducible exact rw4)|exact rfl);(case hx|hy|hn|hb|hok=>exact rfl);(case hlen=>exact U);(case hv=>exact I);(case hk=>exact eQ);(case hf=>exact leq))))
|((with_reducible apply aa.u0);(case hx=>first
|(exact aq J)
|(exact aq G)
|(exact aq D)
|exact ah))
|fail)
    exact⟨(q+1,true,O++[⟨1,(q:Int),E,1⟩]),rfl,rfl,⟨by dsimp only;omega,by simp;omega,by dsimp only;rw[List.append_assoc];exact h2⟩,by dsimp only;omega⟩
  |false=>
   rw[hb]at J;rw[hb,if_neg (by decide)]at h2;refine ar ?_;exact⟨(q+1,aD,O),rfl,rfl,⟨by dsimp only;omega,by dsimp only;omega,h2⟩,by dsimp only;omega⟩
 ·
  rw[fE h3]at h2;unfold eh at h2;rw[List.append_nil]at h2;rw[<- h2];exact af
def zH{m:Md}{p:Pln}{k:Int}(h:PW m p)(hv:dD m p=true)(hk:b9 m k=true)(u:p.aw.length<=100000000):Cl ai 74 [.t (bz m),.t (ba p),.t (.int .i64 k)] [] (.ls 0) [.row false false 4 (bW (bK m k (-1) 0 p.aw))]:=by
 have y:=h.v;have I:=jx m.ay;have J:=h.md.ay;obtain⟨D,G⟩:=ju.1 hk;have z:=Ft (sg := -1) h hv hk (.inr rfl) u;rw[hv]at y;unfold ba at y z⊢;rw[aW,bX]at y z⊢;refine Cl.ao rfl Tryz.func74 rfl rfl rfl ?_;exact af
def fU(n:Int):Bool:=decide (-1000000<=n)&&decide (n<=1000000)
def Pa{n:Nat}(h:n<=1000000000000):ca n 8=true:=by simp[ca];omega
def Fu(n:Int):Cl ai 31 [.t (.int .i64 n)] [] (.t (.bool (!fU n))) []:=by
 unfold fU;refine Cl.ao rfl Tryz.func31 rfl rfl rfl ?_;exact af
def ng(s:List Int)(r:Rw)(q:Nat):Int:=(r.a_.take q).foldl (fun n t=>n - t.bN*s.getD t.cell.toNat 0) r.gP
def Pb{s:List Int}{r:Rw}{q:Nat}{t:Tm}(h:r.a_[q]?=some t):ng s r (q+1)=ng s r q - t.bN*s.getD t.cell.toNat 0:=qi _ _ h
def Fv(s:List Int)(r:Rw):ng s r r.a_.length=jr s r:=by unfold ng jr;rw[List.take_length]
def Fx{n:Nat}{s:List Int}(hs:∀x∈s,-1000000<=x/\x<=1000000){l:List Tm}(ht:allI (fj n l) l=true){t:Tm}(h:t∈l): -1000000000<=t.bN*s.getD t.cell.toNat 0/\t.bN*s.getD t.cell.toNat 0<=1000000000:=by
 have v : -1000000<=s.getD t.cell.toNat 0/\s.getD t.cell.toNat 0<=1000000:=by
  rw[List.getD_eq_getElem?_getD]
  cases u:s[t.cell.toNat]? with
  |none=>simp
  |some x=>exact hs x (List.mem_of_getElem? u)
 have:=Dp (A:=1000) (B:=1000000) (sw ht h).2 v;omega
def zI{n:Nat}{s:List Int}(hs:∀x∈s,-1000000<=x/\x<=1000000){r:Rw}(hr:cy n r=true)(q:Nat): -1000000000 - 1000000000*(r.a_.length:Int)<=ng s r q/\ng s r q<=1000000000+1000000000*(r.a_.length:Int):=by
 have h:=Dq (l:=r.a_.take q) (g:=fun n (t:Tm)=>n - t.bN*s.getD t.cell.toNat 0) (B:=1000000000) (by omega) (fun n t h=>by
  have:=Fx hs (mS hr) (List.mem_of_mem_take h)
  try dsimp only
  omega) r.gP
 have v:((r.a_.take q).length:Int)<=r.a_.length:=by rw[List.length_take];omega
 have u:=Ka hr;unfold ng;omega
def lz(m:Md)(p:Pln)(s:List Int):Bool:=dD m p&&(decide (s.length=(bx m.ak m.tables true).length)&&s.all fU)
def Pc{m:Md}{p:Pln}{s:List Int}(h:PW m p)(hs:s.length<=140737488351232)(hn:lz m p s=false):Cl ai 10 [.t (bz m),.t (ba p),.t (ax s)] [] .nil []:=by
 have u:=h.v;have U:=aQ s;have V:=DS (C:=s) (p:=fun n=>!fU n) hs (fun n _=>Fu n)
 cases y:dD m p with
 |false=>
  rw[y]at u;unfold ba at u⊢;rw[aW,bX]at u⊢;refine Cl.ao rfl Tryz.func10 rfl rfl rfl ?_;exact af
 |true=>
  have G:=Fc h.md h.ef h.op (l6.1 y).lc;have D:=jy (bx m.ak m.tables true);unfold lz at hn;rw[y,Bool.true_and,n7 fU s]at hn;rw[y]at u;obtain⟨R,I⟩:∃R,bx m.ak m.tables true=R:=⟨_,rfl⟩;rw[I]at G D hn;obtain⟨b,z⟩:∃b,(s.any fun n=>!fU n)=b:=⟨_,rfl⟩;rw[z]at V hn;unfold ba at u⊢;rw[aW]at u G⊢;rw[bX]at u⊢;refine Cl.ao rfl Tryz.func10 rfl rfl rfl ?_;by_cases J:s.length=R.length
  ·
   rw[decide_eq_true J,Bool.true_and]at hn
   cases b with
   |false=>cases hn
   |true=>
    exact af
  ·
   exact af
def Pd{s:List Int}(h:s.all fU=true):∀x∈s,-1000000<=x/\x<=1000000:=fun x u=>by
 have:=List.all_eq_true.1 h x u;unfold fU at this;simpa using this
def Pe{m:Md}{p:Pln}{s:List Int}{q:Nat}{x:cn}(h:p.aw[q]?=some x):aG ((p.aw.take q).map fun x=>jr s (rowOf m x))++[[.int .i64 (jr s (rowOf m x))]]=aG ((p.aw.take (q+1)).map fun x=>jr s (rowOf m x)):=by
 rw[List.take_add_one,h];simp[aG]
def vY{m:Md}{p:Pln}{s:List Int}(h:PW m p)(hs:s.length<=140737488351232)(hn:lz m p s=true)(aS:p.aw.length<=100000000):Cl ai 10 [.t (bz m),.t (ba p),.t (ax s)] [] (.ls 0) [.row false false 1 (aG (ci m p s))]:=by
 have kv:=h.v;have bc:=aQ s;have kc:=DS (C:=s) (p:=fun n=>!fU n) hs (fun n _=>Fu n);have a6:=py p.aw;have a1:=qJ m.cons;have aA:=h.pl.aw;have au:=h.md.cons;unfold lz at hn;rw[Bool.and_eq_true,Bool.and_eq_true,decide_eq_true_eq]at hn;obtain⟨hv,hl,ha⟩:=hn;have G:=Pd ha;have D:=l6.1 hv;have J:=D.lc;have km:=Fc h.md h.ef h.op J;have al:=jy (bx m.ak m.tables true);have U:=fun(x:cn) (hx:x∈p.aw)=>D.row hx;have ag:=vW J;rw[n7 fU s,Bool.not_eq_true']at ha;rw[ha]at kc;rw[hv]at kv;obtain⟨R,hR⟩:∃R,bx m.ak m.tables true=R:=⟨_,rfl⟩;rw[hR]at km al hl U ag;have e0:ci m p s=(p.aw.take p.aw.length).map fun x=>jr s (rowOf m x):=by unfold ci;rw[List.take_length]
 rw[e0];unfold ba at kv⊢;rw[aW]at kv km⊢;rw[bX]at kv⊢;refine Cl.ao rfl Tryz.func10 rfl rfl rfl ?_;refine ar ?_;refine aC.cB (fun x:Nat×Bool=>[(7,.ls 3),(33,.t (.int .i64 (x.1:Int)))]) (fun x=>[.box false 30 (([ax m.ak,.arr (br m.tables),.arr (b5 m.bw),.arr (dN m.cons),.arr (dO m.ops),.arr (de m.ay),.arr (cG m.aI)]:List AV).map .t),.box false 35 (([.arr (fq p.aw),.arr (e_ p.aR),.arr (cK p.places),ax p.bI]:List AV).map .t),.row false false 2 (bJ R),.row false x.2 1 (aG ((p.aw.take x.1).map fun x=>jr s (rowOf m x)))]) (fun x=>x.1<=p.aw.length) (fun x=>p.aw.length - x.1) (0,false) rfl rfl (by dsimp only;omega) (fun x hq=>?_);obtain⟨q,be⟩:=x;dsimp only at hq⊢;rcases Nat.lt_or_ge q p.aw.length with h3|h3
 ·
  obtain⟨x,hx⟩:=am h3;have hc:=sO hx;obtain⟨⟨g1,g2⟩,_⟩:=D.aw x (List.mem_of_getElem? hx);obtain⟨c,I⟩:=am (xs:=m.cons) (k:=x.cF.toNat) (by omega);have aD:=pu I;have hr:=U x (List.mem_of_getElem? hx);have V:=Pe (m:=m) (s:=s) hx;rw[Fq I]at hr V;have bb:=l8 c.row.a_;have bd:=uY (mS hr)
  have an:ca ((aG ((p.aw.take q).map fun x=>jr s (rowOf m x))).length+1) 8=true:=by
   rw[aQ,List.length_map,List.length_take];exact Pa (by omega)
  refine ar ?_;refine aC.ind (fun j:Nat=>[(11,.t (.int .i64 (ng s c.row j))),(49,.t (.int .i64 (j:Int)))]) (fun j=>j<=c.row.a_.length) (fun j=>c.row.a_.length - j) 0 rfl (by omega) (fun j hj=>?_);rcases Nat.lt_or_ge j c.row.a_.length with h4|h4
  ·
   obtain⟨t,ht⟩:=am h4;have aE:=mZ ht;have Z:=List.mem_of_getElem? ht;obtain⟨⟨t0,t1⟩,_⟩:=sw (mS hr) Z;have ad:=Fx G (mS hr) Z;obtain⟨v,ab⟩:=am (xs:=s) (k:=t.cell.toNat) (by omega);have aL:=aU ab;have y:=Pb (s:=s) ht;have hb:=zI G hr j;have z:=zI G hr (j+1);rw[y]at z;rw[List.getD_eq_getElem?_getD,ab,Option.getD_some]at ad y z;obtain⟨P,hP⟩:∃P,ng s c.row j=P:=⟨_,rfl⟩;rw[hP]at y hb z⊢;refine ar ?_;exact⟨j+1,by rw[y];rfl,rfl,by omega,by omega⟩
  ·
   obtain rfl:j=c.row.a_.length:=by omega
   rw[Fv]
   repeat'(first
|(with_reducible apply ac.seq)
|((with_reducible apply ac.text);(try case hm=>exact rfl))
|(with_reducible first|apply ac.exit|apply az|apply cR|apply cS)
|((with_reducible apply ac.aH);(case hc=>exact rfl))
|((with_reducible apply aa.bC);(case hp=>exact aj))
|(with_reducible first|apply aa.ap|apply aa.bj)
|((with_reducible apply aa.u);(case hx=>((with_reducible apply ae.eP);(case hs=>exact fun _=>rfl);(case ha|ht=>exact rfl);(case hr=>first|(with_reducible exact eH)|(with_reducible exact rw1)|(with_reducible exact eI)|(with_reducible exact rw3)|(with_reducible exact rw4)|exact rfl);(case hx|hy|hn|hb|hok=>exact rfl);(case hlen=>exact an);(case hv=>exact V);(case hk=>exact eQ);(case hf=>exact leq))))
|((with_reducible apply aa.u0);(case hx=>exact ah))
|fail)
   exact⟨(q+1,true),rfl,rfl,by dsimp only;omega,by dsimp only;omega⟩
 ·
  obtain rfl:q=p.aw.length:=by omega
  exact af
end Go.Proofs.YtjolgbkkocjpgaaGreatDoor
