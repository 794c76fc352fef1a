/- What the code's plans ask of actions:. No condition. -/
import Derived.Test.YtjolgbkkocjpgaaGreatDoorLPC
set_option linter.all false
namespace Go.Proofs.YtjolgbkkocjpgaaGreatDoor
open Go.RowKit
set_option maxRecDepth 100000
set_option maxHeartbeats 32000000
def BN(a:dU):pz a=[.int .i64 a.op,ay a.args,.arr (jb a.eff.delta),.arr (iT a.eff.hold),.arr (iW a.eff.cg)]:=rfl
def sk(r:Rw):eU r=[.arr (eg r.a8),.int .i64 r.ib]:=rfl
def Bw{n:Nat}{d:List bv}(hd:allI (eu n d) d=true){l:List Tm}(ht:allI (fK n l) l=true){t:Tm}(h:t∈l):(-1000<=t.bU/\t.bU<=1000)/\(-1000000000<=dJ d t.cell/\dJ d t.cell<=1000000000)/\(-1000000000000<=t.bU*dJ d t.cell/\t.bU*dJ d t.cell<=1000000000000):=by
 have h1:=(uE ht h).2;have h2:=HY hd t.cell;have h3:=EE (A:=1000) (B:=1000000000) h1 h2;omega
def iF(d:List bv)(l:List Tm)(q:Nat):Int:=(l.take q).foldl (fun n t=>n+t.bU*dJ d t.cell) 0
def Cw{d:List bv}{l:List Tm}{q:Nat}{t:Tm}(h:l[q]?=some t):iF d l (q+1)=iF d l q+t.bU*dJ d t.cell:=p4 _ _ h
def sW{n:Nat}{d:List bv}(hd:allI (eu n d) d=true){l:List Tm}(ht:allI (fK n l) l=true)(q:Nat): -(1000000000000*(l.length:Int))<=iF d l q/\iF d l q<=1000000000000*(l.length:Int):=by
 have h:=Bn (l:=l.take q) (g:=fun n (t:Tm)=>n+t.bU*dJ d t.cell) (B:=1000000000000) (by omega) (fun n t h=>by
  have:=(Bw hd ht (List.mem_of_mem_take h)).2.2
  try dsimp only
  omega) 0
 have u:((l.take q).length:Int)<=l.length:=by rw[List.length_take];omega
 unfold iF;omega
def NR{n:Nat}{a:dU}{r:Rw}(hn:n<=100000)(hd:allI (eu n a.eff.delta) a.eff.delta=true)(ht:allI (fK n r.a8) r.a8=true)(D:a.eff.delta.length<=140737488351232):Cl ah 180 [.t (.agg (pz a)),.t (.agg (eU r))] [] (.t (.int .i64 (mA a.eff.delta r))) []:=by
 have Z:=mf r.a8;have ab:=uD ht;have J:mA a.eff.delta r=iF a.eff.delta r.a8 r.a8.length:=by unfold mA iF;rw[List.take_length]
 have z:=fun c=>JU (a:=a) (c:=c) D;rw[J];rw[sk];rw[BN]at z⊢;refine Cl.aq rfl Tryz.func180 rfl rfl rfl ?_;refine ak ?_;refine ax.ind (fun q:Nat=>[(5,.t (.int .i64 (iF a.eff.delta r.a8 q))),(11,.t (.int .i64 (q:Int)))]) (fun q=>q<=r.a8.length) (fun q=>r.a8.length - q) 0 rfl (by omega) (fun q h1=>?_);rcases Nat.lt_or_ge q r.a8.length with h3|h3
 ·
  obtain⟨t,y⟩:=aj h3;have hc:=nj y;have z:=z t.cell;obtain⟨b1,G,I⟩:=Bw hd ht (List.mem_of_getElem? y);have hs:=Cw (d:=a.eff.delta) y;have V:=sW hd ht q;have u:=sW hd ht (q+1);rw[hs]at u;obtain⟨v,hv⟩:∃v,dJ a.eff.delta t.cell=v:=⟨_,rfl⟩;rw[hv]at z G I hs u;obtain⟨P,U⟩:∃P,iF a.eff.delta r.a8 q=P:=⟨_,rfl⟩;rw[U]at hs V u⊢;refine ak ?_;exact⟨q+1,by rw[hs];rfl,rfl,by omega,by omega⟩
 ·
  obtain rfl:q=r.a8.length:=by omega
  exact ae
def ur{m:Md}(h:b7 m=true):(bH m.ai m.tables true).length<=128:=by
 unfold b7 at h;simp only[Bool.and_eq_true]at h;have u:=h.1.1.1;have v:=uq m.ai true m.tables;unfold bH;rw[if_pos u];unfold bQ at u;simp only[Bool.and_eq_true,decide_eq_true_eq]at u;have:=u.2.2.1;omega
def vg{m:Md}{k:Int}{r:Rw}(h:b7 m=true)(hk:bC m k=true)(hr:cD (bH m.ai m.tables true).length r=true): -128000000000000<=dY m k r/\dY m k r<=128000000000000:=by
 have h1:=sW (vq h hk) (mZ hr) r.a8.length;have h2:=uD (mZ hr);have h3:=ur h;have e:dY m k r=iF (m.au.getD k.toNat fv).eff.delta r.a8 r.a8.length:=by unfold dY mA iF;rw[List.take_length]
 rw[e];omega
def NM{m:Md}{k:Int}{r:Rw}(hm:bo m)(y:∀a∈m.au,iB a.eff)(z:m.ops.length<=4398046511104)(h:b7 m=true)(hk:bC m k=true)(hr:cD (bH m.ai m.tables true).length r=true):Cl ah 154 [.t (bk m),.t (.int .i64 k),.t (.agg (eU r))] [] (.t (.int .i64 (dY m k r))) []:=by
 have G:=z_ hm y z;have I:=fN m.au;have J:=hm.au;obtain⟨U,h1⟩:=eC.1 hk;have u:=pA hk;have hd:=vq h hk;unfold dY;obtain⟨a,v⟩:∃a,m.au.getD k.toNat fv=a:=⟨_,rfl⟩;rw[v]at u hd⊢;have V:=ei u;have D:=NR (a:=a) (r:=r) (by have:=ur h;omega) hd (mZ hr) (by have:=hm.delta a (List.mem_of_getElem? u);omega);rw[h]at G;rw[BN]at D;rw[sk]at D⊢;rw[aS]at G⊢;refine Cl.aq rfl Tryz.func154 rfl rfl rfl ?_;exact ae
def fY(l:List bE):(ba l).length=l.length:=List.length_map _
def mR(l m:List bE):ba l++ba m=ba (l++m):=by unfold ba;rw[List.map_append]
def wZ{m:Md}{x:bI}{c:Cn}(h:m.cons[x.bz.toNat]?=some c):rowOf m x=c.row:=by unfold rowOf;rw[List.getD_eq_getElem?_getD,h];rfl
theorem yG{m:Md}{k sg:Int}:∀(l:List bI) (i:Nat),(aT m k sg i l).length<=l.length
 |[],_=>by simp[aT]
 |x::l,i=>by
  unfold aT;have:=yG (m:=m) (k:=k) (sg:=sg) l (i+1);split <;>simp <;>omega
def oO{n:Nat}(h:n<=1000000000000):b6 n 32=true:=by simp[b6];omega
def Fk{m:Md}{p:Pln}{k sg:Int}(h:PW m p)(hv:cX m p=true)(hk:bC m k=true)(hs:sg=1\/sg= -1)(an:p.ao.length<=100000000):Cl ah 108 [.t (bk m),.t (aN p),.t (.int .i64 k),.t (.int .i64 sg)] [] (.ls 0) [.row false false 4 (ba (aT m k sg 0 p.ao))]:=by
 have aB:=kE p.ao;have av:=nx m.cons;have ag:=h.pl.ao;have ad:=h.md.cons;have z:=jR.1 hv;have I:=z.kV;have D:=fun r hr=>NM (r:=r) h.md h.ef h.op I hk hr;obtain⟨T,hT⟩:∃T,aT m k sg 0 p.ao=T:=⟨_,rfl⟩;rw[hT];unfold aN;rw[aS]at D⊢;rw[bt];refine Cl.aq rfl Tryz.func108 rfl rfl rfl ?_;refine ak ?_;refine ax.cA (fun x:Nat×Bool×List bE=>[(9,.ls 2),(16,.t (.int .i64 (x.1:Int)))]) (fun x=>[.box false 30 (([ay m.ai,.arr (bq m.tables),.arr (bX m.bx),.arr (dc m.cons),.arr (dk m.ops),.arr (cK m.au),.arr (cu m.aG)]:List AV).map .t),.box false 35 (([.arr (eA p.ao),.arr (dO p.aD),.arr (cw p.places),ay p.bh]:List AV).map .t),.row false x.2.1 4 (ba x.2.2)]) (fun x=>x.1<=p.ao.length/\x.2.2.length<=x.1/\x.2.2++aT m k sg x.1 (p.ao.drop x.1)=T) (fun x=>p.ao.length - x.1) (0,false,[]) rfl rfl ⟨by dsimp only;omega,by simp,hT⟩ (fun x hq=>?_);obtain⟨q,Z,O⟩:=x;dsimp only at hq⊢;obtain⟨h1,ab,h2⟩:=hq;rcases Nat.lt_or_ge q p.ao.length with h3|h3
 ·
  obtain⟨x,hx⟩:=aj h3;have hc:=oD hx;obtain⟨⟨g1,g2⟩,_⟩:=z.ao x (List.mem_of_getElem? hx);obtain⟨c,G⟩:=aj (xs:=m.cons) (k:=x.bz.toNat) (by omega);have al:=mB G;have y:=z.row (List.mem_of_getElem? hx);have D:=D (rowOf m x) y;have hb:=vg (k:=k) I hk y;rw[bK hx]at h2;unfold aT at h2;obtain⟨v,V⟩:∃v,dY m k (rowOf m x)=v:=⟨_,rfl⟩;rw[V]at D hb h2;rw[wZ G,sk]at D;have aJ : -128000000000000<=sg*v/\sg*v<=128000000000000:=by rcases hs with rfl|rfl <;>omega
  obtain⟨w,hw⟩:∃w,sg*v=w:=⟨_,rfl⟩;have J:b6 ((ba O).length+1) 32=true:=by rw[fY];exact oO (by omega)
  by_cases h0:0 <sg*v
  ·
   rw[if_pos h0]at h2;have U:ba O++[[.int .i64 0,.int .i64 (q:Int),.int .i64 0,.int .i64 (sg*v)]]=ba (O++[⟨0,(q:Int),0,sg*v⟩]):=(mR O [⟨0,(q:Int),0,sg*v⟩])
   repeat'(first
|(with_reducible first|apply am.seq|apply am.block)
|((with_reducible apply am.text);(try case hm=>exact rfl))
|((with_reducible apply am.drawn);(case hm=>exact rfl))
|(with_reducible first|apply am.skip|apply dx)
|((with_reducible apply am.ew);(case hc=>exact rfl))
|((with_reducible apply aa.aR);(case hp=>exact aA))
|(with_reducible first|apply aa.cI|apply aa.eE)
|((with_reducible apply aa.u);(case hx=>((with_reducible apply ac.da);(case hs=>exact fun _=>rfl);(case ha|ht=>exact rfl);(case hr=>first|(with_reducible exact c7)|(with_reducible exact rw1)|(with_reducible exact c8)|(with_reducible exact rw3)|(with_reducible exact rw4)|exact rfl);(case hx|hy|hn|hb|hok=>exact rfl);(case hlen=>exact J);(case hv=>exact U);(case hk=>exact de);(case hf=>exact leq))))
|((with_reducible apply aa.u0);(case hx=>first
|((with_reducible apply ac.mul);(case hx|hy=>exact rfl);(case h=>omega))
|(exact ap D)
|exact af))
|fail)
   exact⟨(q+1,true,O++[⟨0,(q:Int),0,sg*v⟩]),rfl,rfl,⟨by dsimp only;omega,by simp;omega,by dsimp only;rw[List.append_assoc];exact h2⟩,by dsimp only;omega⟩
  ·
   rw[if_neg h0]at h2;refine ak ?_;exact⟨(q+1,Z,O),rfl,rfl,⟨by dsimp only;omega,by dsimp only;omega,h2⟩,by dsimp only;omega⟩
 ·
  rw[ez h3]at h2;unfold aT at h2;rw[List.append_nil]at h2;subst h2;exact ae
def rD(m:Md)(p:Pln)(k R:Int):Bool:=cX m p&&(bC m k&&(decide (1<=R)&&decide (R<=5)))
def kI{m:Md}{p:Pln}{k R:Int}:rD m p k R=true↔cX m p=true/\(0<=k/\k <m.au.length)/\1<=R/\R<=5:=by
 unfold rD;rw[Bool.and_eq_true,Bool.and_eq_true,Bool.and_eq_true,eC,decide_eq_true_eq,decide_eq_true_eq]
def Av{m:Md}{p:Pln}{k R:Int}(h:PW m p)(hn:rD m p k R=true)(ad:p.ao.length<=100000000):Cl ah 73 [.t (bk m),.t (aN p),.t (.int .i64 k),.t (.int .i64 R)] [] (.aJ [.ls 0,.t (.bool (eH p k))]) [.row false false 4 (ba (bO m p k R))]:=by
 have kv:=h.v;have bb:=fN m.au;have be:=h.md.au;obtain⟨hv,⟨ag,al⟩,a1,a6⟩:=kI.1 hn;have hk:bC m k=true:=eC.2 ⟨ag,al⟩;have z:=jR.1 hv;have bd:=nK p.aD;have aX:=h.pl.aD;have a8:=z.eN;have kc:=Fk (sg:=1) h hv hk (.inl rfl) ad;have kp:=N8 (p:=p) (k:=k) (by have:=h.pl.places;omega);have J:=fun(L:Lck) (V:L∈p.aD)=>Ob (L:=L) (k:=k) (by have:=h.pl.mem L V;omega) (mM.1 (z.lock L V)).MZ;have G:=fun(L:Lck)=>Ok (L:=L) (k:=k) h.md hk;have D:=fun(L:Lck) (V:L∈p.aD) (hb:fD L k=true)=>NT (L:=L) (k:=k) h.md z.kV (mM.1 (z.lock L V)) hb;have an:=yG (m:=m) (k:=k) (sg:=1) p.ao 0;obtain⟨C,hC⟩:∃C,aT m k 1 0 p.ao=C:=⟨_,rfl⟩;have e0:bO m p k R=C++dt m k R 0 p.aD:=by unfold bO;rw[hC]
 obtain⟨T,hT⟩:∃T,C++dt m k R 0 p.aD=T:=⟨_,rfl⟩;rw[e0,hT];rw[hC]at kc an;rw[hv]at kv;obtain⟨pb,av⟩:∃b,eH p k=b:=⟨_,rfl⟩;rw[av]at kp⊢;unfold aN at kv kc kp⊢;rw[aS]at kv kc G D⊢;rw[bt]at kv kc kp⊢;refine Cl.aq rfl Tryz.func73 rfl rfl rfl ?_;refine ak ?_;refine ax.cA (fun x:Nat×Bool×List bE=>[(10,.ls 2),(44,.t (.int .i64 (x.1:Int)))]) (fun x=>[.box false 30 (([ay m.ai,.arr (bq m.tables),.arr (bX m.bx),.arr (dc m.cons),.arr (dk m.ops),.arr (cK m.au),.arr (cu m.aG)]:List AV).map .t),.box false 35 (([.arr (eA p.ao),.arr (dO p.aD),.arr (cw p.places),ay p.bh]:List AV).map .t),.row false x.2.1 4 (ba x.2.2)]) (fun x=>x.1<=p.aD.length/\x.2.2.length<=C.length+x.1/\x.2.2++dt m k R x.1 (p.aD.drop x.1)=T) (fun x=>p.aD.length - x.1) (0,false,C) rfl rfl ⟨by dsimp only;omega,by dsimp only;omega,hT⟩ (fun x hq=>?_);obtain⟨q,aB,O⟩:=x;dsimp only at hq⊢;obtain⟨h1,aV,h2⟩:=hq;rcases Nat.lt_or_ge q p.aD.length with h3|h3
 ·
  obtain⟨L,hx⟩:=aj h3;have y:=List.mem_of_getElem? hx;have hc:=mL hx;have J:=J L y;have G:=G L;have D:=D L y;have ab:=mM.1 (z.lock L y);rw[bK hx]at h2;unfold dt at h2;have U:b6 ((ba O).length+1) 32=true:=by rw[fY];exact oO (by omega)
  rw[mK]at J G D
  cases hb:fD L k with
  |true=>
   have D:=D hb;rw[ab.write hb]at G;rw[hb]at J;rw[hb,if_pos rfl]at h2;obtain⟨E,hE⟩:∃E,jd m L k=E:=⟨_,rfl⟩;rw[hE]at D h2
   cases Z:jZ m L k with
   |true=>
    rw[Z]at G;rw[Z,if_pos rfl]at h2;have I:ba O++[[.int .i64 1,.int .i64 (q:Int),.int .i64 E,.int .i64 R]]=ba (O++[⟨1,(q:Int),E,R⟩]):=(mR O [⟨1,(q:Int),E,R⟩])
    repeat'(first
|(with_reducible first|apply am.seq|apply am.block)
|((with_reducible apply am.text);(try case hm=>exact rfl))
|(with_reducible first|apply am.skip|apply dx)
|((with_reducible apply am.ew);(case hc=>exact rfl))
|((with_reducible apply am.jB);(case hc=>exact rfl))
|((with_reducible apply aa.aR);(case hp=>exact aA))
|(with_reducible first|apply aa.cI|apply aa.eE)
|((with_reducible apply aa.u);(case hx=>((with_reducible apply ac.da);(case hs=>exact fun _=>rfl);(case ha|ht=>exact rfl);(case hr=>first|(with_reducible exact c7)|(with_reducible exact rw1)|(with_reducible exact c8)|(with_reducible exact rw3)|(with_reducible exact rw4)|exact rfl);(case hx|hy|hn|hb|hok=>exact rfl);(case hlen=>exact U);(case hv=>exact I);(case hk=>exact de);(case hf=>exact leq))))
|((with_reducible apply aa.u0);(case hx=>first
|(exact ap J)
|(exact ap G)
|(exact ap D)
|exact af))
|fail)
    exact⟨(q+1,true,O++[⟨1,(q:Int),E,R⟩]),rfl,rfl,⟨by dsimp only;omega,by simp;omega,by dsimp only;rw[List.append_assoc];exact h2⟩,by dsimp only;omega⟩
   |false=>
    rw[Z]at G;rw[Z,if_neg (by decide)]at h2;have I:ba O++[[.int .i64 1,.int .i64 (q:Int),.int .i64 E,.int .i64 1]]=ba (O++[⟨1,(q:Int),E,1⟩]):=(mR O [⟨1,(q:Int),E,1⟩])
    repeat'(first
|(with_reducible first|apply am.seq|apply am.block)
|((with_reducible apply am.text);(try case hm=>exact rfl))
|(with_reducible first|apply am.skip|apply dx)
|((with_reducible apply am.ew);(case hc=>exact rfl))
|((with_reducible apply am.jB);(case hc=>exact rfl))
|((with_reducible apply aa.aR);(case hp=>exact aA))
|(with_reducible first|apply aa.cI|apply aa.eE)
|((with_reducible apply aa.u);(case hx=>((with_reducible apply ac.da);(case hs=>exact fun _=>rfl);(case ha|ht=>exact rfl);(case hr=>first|(with_reducible exact c7)|(with_reducible exact rw1)|(with_reducible exact c8)|(with_reducible exact rw3)|(with_reducible exact rw4)|exact rfl);(case hx|hy|hn|hb|hok=>exact rfl);(case hlen=>exact U);(case hv=>exact I);(case hk=>exact de);(case hf=>exact leq))))
|((with_reducible apply aa.u0);(case hx=>first
|(exact ap J)
|(exact ap G)
|(exact ap D)
|exact af))
|fail)
    exact⟨(q+1,true,O++[⟨1,(q:Int),E,1⟩]),rfl,rfl,⟨by dsimp only;omega,by simp;omega,by dsimp only;rw[List.append_assoc];exact h2⟩,by dsimp only;omega⟩
  |false=>
   rw[hb]at J;rw[hb,if_neg (by decide)]at h2;refine ak ?_;exact⟨(q+1,aB,O),rfl,rfl,⟨by dsimp only;omega,by dsimp only;omega,h2⟩,by dsimp only;omega⟩
 ·
  rw[ez h3]at h2;unfold dt at h2;rw[List.append_nil]at h2;rw[<- h2];exact ae
def Ar{m:Md}{p:Pln}{k:Int}(h:PW m p)(hv:cX m p=true)(hk:bC m k=true)(u:p.ao.length<=100000000):Cl ah 74 [.t (bk m),.t (aN p),.t (.int .i64 k)] [] (.ls 0) [.row false false 4 (ba (aT m k (-1) 0 p.ao))]:=by
 have y:=h.v;have I:=fN m.au;have J:=h.md.au;obtain⟨D,G⟩:=eC.1 hk;have z:=Fk (sg := -1) h hv hk (.inr rfl) u;rw[hv]at y;unfold aN at y z⊢;rw[aS,bt]at y z⊢;refine Cl.aq rfl Tryz.func74 rfl rfl rfl ?_;exact ae
def ji(n:Int):Bool:=decide (-1000000<=n)&&decide (n<=1000000)
def Mn{n:Nat}(h:n<=1000000000000):b6 n 8=true:=by simp[b6];omega
def Oa(n:Int):Cl ah 31 [.t (.int .i64 n)] [] (.t (.bool (!ji n))) []:=by
 unfold ji;refine Cl.aq rfl Tryz.func31 rfl rfl rfl ?_;exact ae
def nU(s:List Int)(r:Rw)(q:Nat):Int:=(r.a8.take q).foldl (fun n t=>n - t.bU*s.getD t.cell.toNat 0) r.ib
def QH{s:List Int}{r:Rw}{q:Nat}{t:Tm}(h:r.a8[q]?=some t):nU s r (q+1)=nU s r q - t.bU*s.getD t.cell.toNat 0:=p4 _ _ h
def GW(s:List Int)(r:Rw):nU s r r.a8.length=jW s r:=by unfold nU jW;rw[List.take_length]
def Hm{n:Nat}{s:List Int}(hs:∀x∈s,-1000000<=x/\x<=1000000){l:List Tm}(ht:allI (fK n l) l=true){t:Tm}(h:t∈l): -1000000000<=t.bU*s.getD t.cell.toNat 0/\t.bU*s.getD t.cell.toNat 0<=1000000000:=by
 have v : -1000000<=s.getD t.cell.toNat 0/\s.getD t.cell.toNat 0<=1000000:=by
  rw[List.getD_eq_getElem?_getD]
  cases u:s[t.cell.toNat]? with
  |none=>simp
  |some x=>exact hs x (List.mem_of_getElem? u)
 have:=EE (A:=1000) (B:=1000000) (uE ht h).2 v;omega
def Bd{n:Nat}{s:List Int}(hs:∀x∈s,-1000000<=x/\x<=1000000){r:Rw}(hr:cD n r=true)(q:Nat): -1000000000 - 1000000000*(r.a8.length:Int)<=nU s r q/\nU s r q<=1000000000+1000000000*(r.a8.length:Int):=by
 have h:=Bn (l:=r.a8.take q) (g:=fun n (t:Tm)=>n - t.bU*s.getD t.cell.toNat 0) (B:=1000000000) (by omega) (fun n t h=>by
  have:=Hm hs (mZ hr) (List.mem_of_mem_take h)
  try dsimp only
  omega) r.ib
 have v:((r.a8.take q).length:Int)<=r.a8.length:=by rw[List.length_take];omega
 have u:=Pm hr;unfold nU;omega
def v6(m:Md)(p:Pln)(s:List Int):Bool:=cX m p&&(decide (s.length=(bH m.ai m.tables true).length)&&s.all ji)
def Lu{s:List Int}(h:s.all ji=true):∀x∈s,-1000000<=x/\x<=1000000:=fun x u=>by
 have:=List.all_eq_true.1 h x u;unfold ji at this;simpa using this
def QI{m:Md}{p:Pln}{s:List Int}{q:Nat}{x:bI}(h:p.ao[q]?=some x):aE ((p.ao.take q).map fun x=>jW s (rowOf m x))++[[.int .i64 (jW s (rowOf m x))]]=aE ((p.ao.take (q+1)).map fun x=>jW s (rowOf m x)):=by
 rw[List.take_add_one,h];simp[aE]
def N_{m:Md}{p:Pln}{s:List Int}(h:PW m p)(hs:s.length<=140737488351232)(hn:v6 m p s=true)(aX:p.ao.length<=100000000):Cl ah 10 [.t (bk m),.t (aN p),.t (ay s)] [] (.ls 0) [.row false false 1 (aE (gl m p s))]:=by
 have kv:=h.v;have bd:=aO s;have kc:=Jy (C:=s) (p:=fun n=>!ji n) hs (fun n _=>Oa n);have a6:=kE p.ao;have a1:=nx m.cons;have aB:=h.pl.ao;have av:=h.md.cons;unfold v6 at hn;rw[Bool.and_eq_true,Bool.and_eq_true,decide_eq_true_eq]at hn;obtain⟨hv,hl,ha⟩:=hn;have G:=Lu ha;have D:=jR.1 hv;have J:=D.kV;have km:=Na h.md h.ef h.op J;have al:=k7 (bH m.ai m.tables true);have U:=fun(x:bI) (hx:x∈p.ao)=>D.row hx;have ag:=ur J;rw[pD ji s,Bool.not_eq_true']at ha;rw[ha]at kc;rw[hv]at kv;obtain⟨R,hR⟩:∃R,bH m.ai m.tables true=R:=⟨_,rfl⟩;rw[hR]at km al hl U ag;have e0:gl m p s=(p.ao.take p.ao.length).map fun x=>jW s (rowOf m x):=by unfold gl;rw[List.take_length]
 rw[e0];unfold aN at kv⊢;rw[aS]at kv km⊢;rw[bt]at kv⊢;refine Cl.aq rfl Tryz.func10 rfl rfl rfl ?_;refine ak ?_;refine ax.cA (fun x:Nat×Bool=>[(7,.ls 3),(33,.t (.int .i64 (x.1:Int)))]) (fun x=>[.box false 30 (([ay m.ai,.arr (bq m.tables),.arr (bX m.bx),.arr (dc m.cons),.arr (dk m.ops),.arr (cK m.au),.arr (cu m.aG)]:List AV).map .t),.box false 35 (([.arr (eA p.ao),.arr (dO p.aD),.arr (cw p.places),ay p.bh]:List AV).map .t),.row false false 2 (bR R),.row false x.2 1 (aE ((p.ao.take x.1).map fun x=>jW s (rowOf m x)))]) (fun x=>x.1<=p.ao.length) (fun x=>p.ao.length - x.1) (0,false) rfl rfl (by dsimp only;omega) (fun x hq=>?_);obtain⟨q,bf⟩:=x;dsimp only at hq⊢;rcases Nat.lt_or_ge q p.ao.length with h3|h3
 ·
  obtain⟨x,hx⟩:=aj h3;have hc:=oD hx;obtain⟨⟨g1,g2⟩,_⟩:=D.ao x (List.mem_of_getElem? hx);obtain⟨c,I⟩:=aj (xs:=m.cons) (k:=x.bz.toNat) (by omega);have aJ:=mB I;have hr:=U x (List.mem_of_getElem? hx);have V:=QI (m:=m) (s:=s) hx;rw[wZ I]at hr V;have bb:=mf c.row.a8;have be:=uD (mZ hr)
  have an:b6 ((aE ((p.ao.take q).map fun x=>jW s (rowOf m x))).length+1) 8=true:=by
   rw[aO,List.length_map,List.length_take];exact Mn (by omega)
  refine ak ?_;refine ax.ind (fun j:Nat=>[(11,.t (.int .i64 (nU s c.row j))),(49,.t (.int .i64 (j:Int)))]) (fun j=>j<=c.row.a8.length) (fun j=>c.row.a8.length - j) 0 rfl (by omega) (fun j hj=>?_);rcases Nat.lt_or_ge j c.row.a8.length with h4|h4
  ·
   obtain⟨t,ht⟩:=aj h4;have aR:=nj ht;have Z:=List.mem_of_getElem? ht;obtain⟨⟨t0,t1⟩,_⟩:=uE (mZ hr) Z;have ad:=Hm G (mZ hr) Z;obtain⟨v,ab⟩:=aj (xs:=s) (k:=t.cell.toNat) (by omega);have aV:=aW ab;have y:=QH (s:=s) ht;have hb:=Bd G hr j;have z:=Bd G hr (j+1);rw[y]at z;rw[List.getD_eq_getElem?_getD,ab,Option.getD_some]at ad y z;obtain⟨P,hP⟩:∃P,nU s c.row j=P:=⟨_,rfl⟩;rw[hP]at y hb z⊢;refine ak ?_;exact⟨j+1,by rw[y];rfl,rfl,by omega,by omega⟩
  ·
   obtain rfl:j=c.row.a8.length:=by omega
   rw[GW]
   repeat'(first
|(with_reducible apply am.seq)
|((with_reducible apply am.text);(try case hm=>exact rfl))
|(with_reducible first|apply am.exit|apply dx|apply qG|apply pI)
|((with_reducible apply am.jB);(case hc=>exact rfl))
|((with_reducible apply aa.cQ);(case hp=>exact aA))
|(with_reducible first|apply aa.cI|apply aa.eE)
|((with_reducible apply aa.u);(case hx=>((with_reducible apply ac.da);(case hs=>exact fun _=>rfl);(case ha|ht=>exact rfl);(case hr=>first|(with_reducible exact c7)|(with_reducible exact rw1)|(with_reducible exact c8)|(with_reducible exact rw3)|(with_reducible exact rw4)|exact rfl);(case hx|hy|hn|hb|hok=>exact rfl);(case hlen=>exact an);(case hv=>exact V);(case hk=>exact de);(case hf=>exact leq))))
|((with_reducible apply aa.u0);(case hx=>exact af))
|fail)
   exact⟨(q+1,true),rfl,rfl,by dsimp only;omega,by dsimp only;omega⟩
 ·
  obtain rfl:q=p.ao.length:=by omega
  exact ae
end Go.Proofs.YtjolgbkkocjpgaaGreatDoor
