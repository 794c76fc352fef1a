/- What the code's plans ask of actions:. No condition. -/
import Derived.Test.YtcgdbhlnkificaaGreatDoorLPC
set_option linter.all false
namespace Go.Proofs.YtcgdbhlnkificaaGreatDoor
open Go.RowKit
set_option maxRecDepth 100000
set_option maxHeartbeats 32000000
def RB(a:eF):o8 a=[.int .i64 a.op,aD a.args,.arr (iV a.eff.delta),.arr (iK a.eff.hold),.arr (iO a.eff.b7)]:=rfl
def Ad(r:Rw):fa r=[.arr (dU r.bt),.int .i64 r.jZ]:=rfl
def Gw{n:Nat}{d:List bP}(hd:allI (eX n d) d=true){l:List Tm}(ht:allI (fU n l) l=true){t:Tm}(h:t∈l):(-1000<=t.bZ/\t.bZ<=1000)/\(-1000000000<=eh d t.cell/\eh d t.cell<=1000000000)/\(-1000000000000<=t.bZ*eh d t.cell/\t.bZ*eh d t.cell<=1000000000000):=by
 have h1:=(AC ht h).2;have h2:=G_ hd t.cell;have h3:=LU (A:=1000) (B:=1000000000) h1 h2;omega
def ld(d:List bP)(l:List Tm)(q:Nat):Int:=(l.take q).foldl (fun n t=>n+t.bZ*eh d t.cell) 0
def HZ{d:List bP}{l:List Tm}{q:Nat}{t:Tm}(h:l[q]?=some t):ld d l (q+1)=ld d l q+t.bZ*eh d t.cell:=yr _ _ h
def xE{n:Nat}{d:List bP}(hd:allI (eX n d) d=true){l:List Tm}(ht:allI (fU n l) l=true)(q:Nat): -(1000000000000*(l.length:Int))<=ld d l q/\ld d l q<=1000000000000*(l.length:Int):=by
 have h:=PA (l:=l.take q) (g:=fun n (t:Tm)=>n+t.bZ*eh d t.cell) (B:=1000000000000) (by omega) (fun n t h=>by
  have:=(Gw hd ht (List.mem_of_mem_take h)).2.2
  try dsimp only
  omega) 0
 have u:((l.take q).length:Int)<=l.length:=by rw[List.length_take];omega
 unfold ld;omega
def Mw{n:Nat}{a:eF}{r:Rw}(hn:n<=100000)(hd:allI (eX n a.eff.delta) a.eff.delta=true)(ht:allI (fU n r.bt) r.bt=true)(D:a.eff.delta.length<=140737488351232):Cl aj 187 [.t (.agg (o8 a)),.t (.agg (fa r))] [] (.t (.int .i64 (pg a.eff.delta r))) []:=by
 have Z:=nG r.bt;have ab:=Gv ht;have J:pg a.eff.delta r=ld a.eff.delta r.bt r.bt.length:=by unfold pg ld;rw[List.take_length]
 have z:=fun c=>IF (a:=a) (c:=c) D;rw[J];rw[Ad];rw[RB]at z⊢;refine Cl.ap rfl Tryz.func187 rfl rfl rfl ?_;refine aq ?_;refine az.ind (fun q:Nat=>[(5,.t (.int .i64 (ld a.eff.delta r.bt q))),(11,.t (.int .i64 (q:Int)))]) (fun q=>q<=r.bt.length) (fun q=>r.bt.length - q) 0 rfl (by omega) (fun q h1=>?_);rcases Nat.lt_or_ge q r.bt.length with h3|h3
 ·
  obtain⟨t,y⟩:=am h3;have hc:=oU y;have z:=z t.cell;obtain⟨b1,G,I⟩:=Gw hd ht (List.mem_of_getElem? y);have hs:=HZ (d:=a.eff.delta) y;have V:=xE hd ht q;have u:=xE hd ht (q+1);rw[hs]at u;obtain⟨v,hv⟩:∃v,eh a.eff.delta t.cell=v:=⟨_,rfl⟩;rw[hv]at z G I hs u;obtain⟨P,U⟩:∃P,ld a.eff.delta r.bt q=P:=⟨_,rfl⟩;rw[U]at hs V u⊢;refine aq ?_;exact⟨q+1,by rw[hs];rfl,rfl,by omega,by omega⟩
 ·
  obtain rfl:q=r.bt.length:=by omega
  exact ah
def EX{m:Md}(h:b6 m=true):(bW m.ao m.tables true).length<=128:=by
 unfold b6 at h;simp only[Bool.and_eq_true]at h;have u:=h.1.1.1;have v:=vZ m.ao true m.tables;unfold bW;rw[if_pos u];unfold bJ at u;simp only[Bool.and_eq_true,decide_eq_true_eq]at u;have:=u.2.2.1;omega
def HX{m:Md}{k:Int}{r:Rw}(h:b6 m=true)(hk:b9 m k=true)(hr:cI (bW m.ao m.tables true).length r=true): -128000000000000<=eW m k r/\eW m k r<=128000000000000:=by
 have h1:=xE (xL h hk) (v_ hr) r.bt.length;have h2:=Gv (v_ hr);have h3:=EX h;have e:eW m k r=ld (m.ax.getD k.toNat fD).eff.delta r.bt r.bt.length:=by unfold eW pg ld;rw[List.take_length]
 rw[e];omega
def Mr{m:Md}{k:Int}{r:Rw}(hm:bx m)(y:∀a∈m.ax,jj a.eff)(z:m.ops.length<=4398046511104)(h:b6 m=true)(hk:b9 m k=true)(hr:cI (bW m.ao m.tables true).length r=true):Cl aj 167 [.t (bN m),.t (.int .i64 k),.t (.agg (fa r))] [] (.t (.int .i64 (eW m k r))) []:=by
 have G:=DU hm y z;have I:=jl m.ax;have J:=hm.ax;obtain⟨U,h1⟩:=jB.1 hk;have u:=qp hk;have hd:=xL h hk;unfold eW;obtain⟨a,v⟩:∃a,m.ax.getD k.toNat fD=a:=⟨_,rfl⟩;rw[v]at u hd⊢;have V:=fF u;have D:=Mw (a:=a) (r:=r) (by have:=EX h;omega) hd (v_ hr) (by have:=hm.delta a (List.mem_of_getElem? u);omega);rw[h]at G;rw[RB]at D;rw[Ad]at D⊢;rw[aZ]at G⊢;refine Cl.ap rfl Tryz.func167 rfl rfl rfl ?_;exact ah
def tA(l:List cz):(cH l).length=l.length:=List.length_map _
def vI(l m:List cz):cH l++cH m=cH (l++m):=by unfold cH;rw[List.map_append]
def NO{m:Md}{x:bM}{c:Cn}(h:m.cons[x.bu.toNat]?=some c):rowOf m x=c.row:=by unfold rowOf;rw[List.getD_eq_getElem?_getD,h];rfl
theorem BK{m:Md}{k sg:Int}:∀(l:List bM) (i:Nat),(cZ m k sg i l).length<=l.length
 |[],_=>by simp[cZ]
 |x::l,i=>by
  unfold cZ;have:=BK (m:=m) (k:=k) (sg:=sg) l (i+1);split <;>simp <;>omega
def yO{n:Nat}(h:n<=1000000000000):cn n 32=true:=by simp[cn];omega
def Mx{m:Md}{p:Pln}{k sg:Int}(h:PW m p)(hv:cy m p=true)(hk:b9 m k=true)(hs:sg=1\/sg= -1)(an:p.aM.length<=100000000):Cl aj 124 [.t (bN m),.t (a_ p),.t (.int .i64 k),.t (.int .i64 sg)] [] (.ls 0) [.row false false 4 (cH (cZ m k sg 0 p.aM))]:=by
 have av:=sF p.aM;have au:=qE m.cons;have ag:=h.pl.aM;have ad:=h.md.cons;have z:=kU.1 hv;have I:=z.lH;have D:=fun r hr=>Mr (r:=r) h.md h.ef h.op I hk hr;obtain⟨T,hT⟩:∃T,cZ m k sg 0 p.aM=T:=⟨_,rfl⟩;rw[hT];unfold a_;rw[aZ]at D⊢;rw[bK];refine Cl.ap rfl Tryz.func124 rfl rfl rfl ?_;refine aq ?_;refine az.c8 (fun x:Nat×Bool×List cz=>[(9,.ls 2),(16,.t (.int .i64 (x.1:Int)))]) (fun x=>[.box false 30 (([aD m.ao,.arr (bC m.tables),.arr (cq m.bH),.arr (fk m.cons),.arr (fv m.ops),.arr (eg m.ax),.arr (c7 m.aG)]:List AV).map .t),.box false 35 (([.arr (gJ p.aM),.arr (fM p.aA),.arr (cM p.places),aD p.bj]:List AV).map .t),.row false x.2.1 4 (cH x.2.2)]) (fun x=>x.1<=p.aM.length/\x.2.2.length<=x.1/\x.2.2++cZ m k sg x.1 (p.aM.drop x.1)=T) (fun x=>p.aM.length - x.1) (0,false,[]) rfl rfl ⟨by dsimp only;omega,by simp,hT⟩ (fun x hq=>?_);obtain⟨q,Z,O⟩:=x;dsimp only at hq⊢;obtain⟨h1,ab,h2⟩:=hq;rcases Nat.lt_or_ge q p.aM.length with h3|h3
 ·
  obtain⟨x,hx⟩:=am h3;have hc:=sE hx;obtain⟨⟨g1,g2⟩,_⟩:=z.aM x (List.mem_of_getElem? hx);obtain⟨c,G⟩:=am (xs:=m.cons) (k:=x.bu.toNat) (by omega);have al:=ph G;have y:=z.row (List.mem_of_getElem? hx);have D:=D (rowOf m x) y;have hb:=HX (k:=k) I hk y;rw[bG hx]at h2;unfold cZ at h2;obtain⟨v,V⟩:∃v,eW m k (rowOf m x)=v:=⟨_,rfl⟩;rw[V]at D hb h2;rw[NO G,Ad]at D;have aN : -128000000000000<=sg*v/\sg*v<=128000000000000:=by rcases hs with rfl|rfl <;>omega
  obtain⟨w,hw⟩:∃w,sg*v=w:=⟨_,rfl⟩;have J:cn ((cH O).length+1) 32=true:=by rw[tA];exact yO (by omega)
  by_cases h0:0 <sg*v
  ·
   rw[if_pos h0]at h2;have U:cH O++[[.int .i64 0,.int .i64 (q:Int),.int .i64 0,.int .i64 (sg*v)]]=cH (O++[⟨0,(q:Int),0,sg*v⟩]):=(vI O [⟨0,(q:Int),0,sg*v⟩])
   repeat'(first
|(with_reducible first|apply ac.seq|apply ac.block)
|((with_reducible apply ac.text);(try case hm=>exact rfl))
|((with_reducible apply ac.drawn);(case hm=>exact rfl))
|(with_reducible first|apply ac.skip|apply aH)
|((with_reducible apply ac.aR);(case hc=>exact rfl))
|((with_reducible apply aa.aF);(case hp=>exact ak))
|(with_reducible first|apply aa.aB|apply aa.dF)
|((with_reducible apply aa.u);(case hx=>((with_reducible apply af.ei);(case hs=>exact fun _=>rfl);(case ha|ht=>exact rfl);(case hr=>first|(with_reducible exact ec)|(with_reducible exact rw1)|(with_reducible exact ed)|(with_reducible exact rw3)|(with_reducible exact rw4)|exact rfl);(case hx|hy|hn|hb|hok=>exact rfl);(case hlen=>exact J);(case hv=>exact U);(case hk=>exact ez);(case hf=>exact leq))))
|((with_reducible apply aa.u0);(case hx=>first
|((with_reducible apply af.mul);(case hx|hy=>exact rfl);(case h=>omega))
|(exact ai D)
|exact ae))
|fail)
   exact⟨(q+1,true,O++[⟨0,(q:Int),0,sg*v⟩]),rfl,rfl,⟨by dsimp only;omega,by simp;omega,by dsimp only;rw[List.append_assoc];exact h2⟩,by dsimp only;omega⟩
  ·
   rw[if_neg h0]at h2;refine aq ?_;exact⟨(q+1,Z,O),rfl,rfl,⟨by dsimp only;omega,by dsimp only;omega,h2⟩,by dsimp only;omega⟩
 ·
  rw[eY h3]at h2;unfold cZ at h2;rw[List.append_nil]at h2;subst h2;exact ah
def vk(m:Md)(p:Pln)(k R:Int):Bool:=cy m p&&(b9 m k&&(decide (1<=R)&&decide (R<=5)))
def C0{m:Md}{p:Pln}{k R:Int}:vk m p k R=true↔cy m p=true/\(0<=k/\k <m.ax.length)/\1<=R/\R<=5:=by
 unfold vk;rw[Bool.and_eq_true,Bool.and_eq_true,Bool.and_eq_true,jB,decide_eq_true_eq,decide_eq_true_eq]
def MO{m:Md}{p:Pln}{k R:Int}(h:PW m p)(hn:vk m p k R=true)(ad:p.aM.length<=100000000):Cl aj 91 [.t (bN m),.t (a_ p),.t (.int .i64 k),.t (.int .i64 R)] [] (.aN [.ls 0,.t (.bool (h_ p k))]) [.row false false 4 (cH (dS m p k R))]:=by
 have kv:=h.v;have bd:=jl m.ax;have bf:=h.md.ax;obtain⟨hv,⟨ag,al⟩,a1,a6⟩:=C0.1 hn;have hk:b9 m k=true:=jB.2 ⟨ag,al⟩;have z:=kU.1 hv;have be:=kP p.aA;have aX:=h.pl.aA;have bb:=z.gb;have kc:=Mx (sg:=1) h hv hk (.inl rfl) ad;have kp:=MR (p:=p) (k:=k) (by have:=h.pl.places;omega);have J:=fun(L:Lck) (V:L∈p.aA)=>MT (L:=L) (k:=k) (by have:=h.pl.mem L V;omega) (lE.1 (z.lock L V)).LH;have G:=fun(L:Lck)=>M3 (L:=L) (k:=k) h.md hk;have D:=fun(L:Lck) (V:L∈p.aA) (hb:gL L k=true)=>Mz (L:=L) (k:=k) h.md z.lH (lE.1 (z.lock L V)) hb;have an:=BK (m:=m) (k:=k) (sg:=1) p.aM 0;obtain⟨C,hC⟩:∃C,cZ m k 1 0 p.aM=C:=⟨_,rfl⟩;have e0:dS m p k R=C++fy m k R 0 p.aA:=by unfold dS;rw[hC]
 obtain⟨T,hT⟩:∃T,C++fy m k R 0 p.aA=T:=⟨_,rfl⟩;rw[e0,hT];rw[hC]at kc an;rw[hv]at kv;obtain⟨pb,au⟩:∃b,h_ p k=b:=⟨_,rfl⟩;rw[au]at kp⊢;unfold a_ at kv kc kp⊢;rw[aZ]at kv kc G D⊢;rw[bK]at kv kc kp⊢;refine Cl.ap rfl Tryz.func91 rfl rfl rfl ?_;refine aq ?_;refine az.c8 (fun x:Nat×Bool×List cz=>[(10,.ls 2),(44,.t (.int .i64 (x.1:Int)))]) (fun x=>[.box false 30 (([aD m.ao,.arr (bC m.tables),.arr (cq m.bH),.arr (fk m.cons),.arr (fv m.ops),.arr (eg m.ax),.arr (c7 m.aG)]:List AV).map .t),.box false 35 (([.arr (gJ p.aM),.arr (fM p.aA),.arr (cM p.places),aD p.bj]:List AV).map .t),.row false x.2.1 4 (cH x.2.2)]) (fun x=>x.1<=p.aA.length/\x.2.2.length<=C.length+x.1/\x.2.2++fy m k R x.1 (p.aA.drop x.1)=T) (fun x=>p.aA.length - x.1) (0,false,C) rfl rfl ⟨by dsimp only;omega,by dsimp only;omega,hT⟩ (fun x hq=>?_);obtain⟨q,av,O⟩:=x;dsimp only at hq⊢;obtain⟨h1,aT,h2⟩:=hq;rcases Nat.lt_or_ge q p.aA.length with h3|h3
 ·
  obtain⟨L,hx⟩:=am h3;have y:=List.mem_of_getElem? hx;have hc:=nw hx;have J:=J L y;have G:=G L;have D:=D L y;have ab:=lE.1 (z.lock L y);rw[bG hx]at h2;unfold fy at h2;have U:cn ((cH O).length+1) 32=true:=by rw[tA];exact yO (by omega)
  rw[mw]at J G D
  cases hb:gL L k with
  |true=>
   have D:=D hb;rw[ab.write hb]at G;rw[hb]at J;rw[hb,if_pos rfl]at h2;obtain⟨E,hE⟩:∃E,j9 m L k=E:=⟨_,rfl⟩;rw[hE]at D h2
   cases Z:mN m L k with
   |true=>
    rw[Z]at G;rw[Z,if_pos rfl]at h2;have I:cH O++[[.int .i64 1,.int .i64 (q:Int),.int .i64 E,.int .i64 R]]=cH (O++[⟨1,(q:Int),E,R⟩]):=(vI O [⟨1,(q:Int),E,R⟩])
    repeat'(first
|(with_reducible first|apply ac.seq|apply ac.block)
|((with_reducible apply ac.text);(try case hm=>exact rfl))
|(with_reducible first|apply ac.skip|apply aH)
|((with_reducible apply ac.aR);(case hc=>exact rfl))
|((with_reducible apply ac.aY);(case hc=>exact rfl))
|((with_reducible apply aa.aF);(case hp=>exact ak))
|(with_reducible first|apply aa.aB|apply aa.dF)
|((with_reducible apply aa.u);(case hx=>((with_reducible apply af.ei);(case hs=>exact fun _=>rfl);(case ha|ht=>exact rfl);(case hr=>first|(with_reducible exact ec)|(with_reducible exact rw1)|(with_reducible exact ed)|(with_reducible exact rw3)|(with_reducible exact rw4)|exact rfl);(case hx|hy|hn|hb|hok=>exact rfl);(case hlen=>exact U);(case hv=>exact I);(case hk=>exact ez);(case hf=>exact leq))))
|((with_reducible apply aa.u0);(case hx=>first
|(exact ai J)
|(exact ai G)
|(exact ai D)
|exact ae))
|fail)
    exact⟨(q+1,true,O++[⟨1,(q:Int),E,R⟩]),rfl,rfl,⟨by dsimp only;omega,by simp;omega,by dsimp only;rw[List.append_assoc];exact h2⟩,by dsimp only;omega⟩
   |false=>
    rw[Z]at G;rw[Z,if_neg (by decide)]at h2;have I:cH O++[[.int .i64 1,.int .i64 (q:Int),.int .i64 E,.int .i64 1]]=cH (O++[⟨1,(q:Int),E,1⟩]):=(vI O [⟨1,(q:Int),E,1⟩])
    repeat'(first
|(with_reducible first|apply ac.seq|apply ac.block)
|((with_reducible apply ac.text);(try case hm=>exact rfl))
|(with_reducible first|apply ac.skip|apply aH)
|((with_reducible apply ac.aR);(case hc=>exact rfl))
|((with_reducible apply ac.aY);(case hc=>exact rfl))
|((with_reducible apply aa.aF);(case hp=>exact ak))
|(with_reducible first|apply aa.aB|apply aa.dF)
|((with_reducible apply aa.u);(case hx=>((with_reducible apply af.ei);(case hs=>exact fun _=>rfl);(case ha|ht=>exact rfl);(case hr=>first|(with_reducible exact ec)|(with_reducible exact rw1)|(with_reducible exact ed)|(with_reducible exact rw3)|(with_reducible exact rw4)|exact rfl);(case hx|hy|hn|hb|hok=>exact rfl);(case hlen=>exact U);(case hv=>exact I);(case hk=>exact ez);(case hf=>exact leq))))
|((with_reducible apply aa.u0);(case hx=>first
|(exact ai J)
|(exact ai G)
|(exact ai D)
|exact ae))
|fail)
    exact⟨(q+1,true,O++[⟨1,(q:Int),E,1⟩]),rfl,rfl,⟨by dsimp only;omega,by simp;omega,by dsimp only;rw[List.append_assoc];exact h2⟩,by dsimp only;omega⟩
  |false=>
   rw[hb]at J;rw[hb,if_neg (by decide)]at h2;refine aq ?_;exact⟨(q+1,av,O),rfl,rfl,⟨by dsimp only;omega,by dsimp only;omega,h2⟩,by dsimp only;omega⟩
 ·
  rw[eY h3]at h2;unfold fy at h2;rw[List.append_nil]at h2;rw[<- h2];exact ah
theorem FP(m:Md)(k R:Int):∀(i:Nat) (l:List Lck),(fy m k R i l).length<=l.length
 |i,[]=>by unfold fy;exact Nat.le_refl _
 |i,L::l=>by
  unfold fy;have:=FP m k R (i+1) l;split
  ·simp;omega
  ·simp;omega
theorem BL(m:Md)(k sg:Int):∀(i:Nat) (l:List bM),(cZ m k sg i l).length<=l.length
 |i,[]=>by unfold cZ;exact Nat.le_refl _
 |i,x::l=>by
  unfold cZ;have:=BL m k sg (i+1) l;split
  ·simp;omega
  ·simp;omega
def L0(m:Md)(p:Pln)(k R:Int):(dS m p k R).length<=p.aM.length+p.aA.length:=by
 unfold dS;rw[List.length_append];have h1:=BL m k 1 0 p.aM;have h2:=FP m k R 0 p.aA;omega
end Go.Proofs.YtcgdbhlnkificaaGreatDoor
