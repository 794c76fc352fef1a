/- What the reference's plans ask of actions:. No condition. -/
import Derived.Test.YtjolgbkkocjpgaaGreatDoorTPJ
set_option linter.all false
namespace Go.Proofs.YtjolgbkkocjpgaaGreatDoor
open Go.RowKit
set_option maxRecDepth 100000
set_option maxHeartbeats 32000000
def Fy{m:Md}{k:Int}{r:Rw}{a:dU}(h:b7 m=true)(hl:mj m)(hk:bC m k=true)(ha:m.au[k.toNat]?=some a)(hr:cD (bH m.ai m.tables true).length r=true):Cl ah 116 [.t (.agg (nz a.eff)),.t (.agg (eU r))] [] (.t (.int .i64 (dY m k r))) []:=by
 have hd:=vq h hk;have e:m.au.getD k.toNat fv=a:=by rw[List.getD_eq_getElem?_getD,ha];rfl
 unfold dY;rw[e]at hd⊢;exact Om (by have:=ur h;omega) hd (mZ hr) (hl a (List.mem_of_getElem? ha))
def O5{m:Md}{p:Pln}{k R:Int}(h:PW m p)(hl:mj m)(hn:rD m p k R=true)(bT:p.ao.length<=100000000):Cl ah 83 [.t (bk m),.t (aN p),.t (.int .i64 k),.t (.int .i64 R)] [] (.aJ [.ls 0,.t (.bool (eH p k))]) [.row false false 4 (ba (bO m p k R))]:=by
 have kv:=ut h;have b0:=fN m.au;have b4:=h.md.au;obtain⟨hv,⟨aB,aV⟩,bi,bl⟩:=kI.1 hn;have hk:bC m k=true:=eC.2 ⟨aB,aV⟩;have D:=jR.1 hv;have ad:=D.kV;have b3:=nK p.aD;have bf:=h.pl.aD;have bU:=D.eN;have b2:=kE p.ao;have b1:=nx m.cons;have be:=h.pl.ao;have bd:=h.md.cons;obtain⟨a,ha⟩:=aj (xs:=m.au) (k:=k.toNat) (by omega);have bm:=ei ha;have kC:=fun r hr=>Fy (r:=r) ad hl hk ha hr;have kp:=F8 (p:=p) (k:=k) (by have:=h.pl.places;omega);have kt:=fun(L:Lck) (q:Nat) (hL:p.aD[q]?=some L)=>Pp (k:=k) (i:=(q:Int)) h.pl (by omega) (by rw[Int.toNat_natCast];exact hL);have V:=fun(L:Lck) (q:Nat) (hL:p.aD[q]?=some L)=>PK (k:=k) (i:=(q:Int)) h.md h.pl (by omega) (by rw[Int.toNat_natCast];exact hL) hk;have J:=fun(L:Lck) (q:Nat) (hL:p.aD[q]?=some L) hb=>Pe (k:=k) (i:=(q:Int)) h.md h.pl ad (by omega) (by rw[Int.toNat_natCast];exact hL) (mM.1 (D.lock L (List.mem_of_getElem? hL))) hb;have al:=yG (m:=m) (k:=k) (sg:=1) p.ao 0;obtain⟨T1,ab⟩:∃C,aT m k 1 0 p.ao=C:=⟨_,rfl⟩;obtain⟨T,hT⟩:∃T,T1++dt m k R 0 p.aD=T:=⟨_,rfl⟩;have e0:bO m p k R=T:=by unfold bO;rw[ab,hT]
 rw[e0];rw[ab]at al;rw[hv]at kv;rw[te]at kC;obtain⟨pb,aX⟩:∃b,eH p k=b:=⟨_,rfl⟩;rw[aX]at kp⊢;unfold aN at kv kp kt V J⊢;rw[aS]at kv V J⊢;rw[bt]at kv kp kt V J⊢;refine Cl.aq rfl Tryz.func83 rfl rfl rfl ?_;refine ak ?_;refine ax.cA (fun x:Nat×Bool×List bE=>[(10,.ls 2),(11,.t (.int .i64 (x.1:Int)))]) (fun x=>[.box false 30 (([ay m.ai,.arr (bq m.tables),.arr (bX m.bx),.arr (dc m.cons),.arr (dk m.ops),.arr (cK m.au),.arr (cu m.aG)]:List AV).map .t),.box false 35 (([.arr (eA p.ao),.arr (dO p.aD),.arr (cw p.places),ay p.bh]:List AV).map .t),.row false x.2.1 4 (ba x.2.2)]) (fun x=>x.1<=p.ao.length/\x.2.2.length<=x.1/\x.2.2++aT m k 1 x.1 (p.ao.drop x.1)=T1) (fun x=>p.ao.length - x.1) (0,false,[]) rfl rfl ⟨by dsimp only;omega,by simp,ab⟩ (fun x hq=>?_);obtain⟨q,an,O⟩:=x;dsimp only at hq⊢;obtain⟨h1,bb,h2⟩:=hq;rcases Nat.lt_or_ge q p.ao.length with h3|h3
 ·
  obtain⟨x,hx⟩:=aj h3;have hc:=oD hx;obtain⟨⟨g1,y⟩,_⟩:=D.ao x (List.mem_of_getElem? hx);obtain⟨c,ag⟩:=aj (xs:=m.cons) (k:=x.bz.toNat) (by omega);have bw:=mB ag;have Z:=D.row (List.mem_of_getElem? hx);have kC:=kC (rowOf m x) Z;have hb:=vg (k:=k) ad hk Z;rw[bK hx]at h2;unfold aT at h2;rw[Int.one_mul]at h2;obtain⟨v,a1⟩:∃v,dY m k (rowOf m x)=v:=⟨_,rfl⟩;rw[a1]at kC hb h2;rw[wZ ag,sk]at kC;have U:b6 ((ba O).length+1) 32=true:=by rw[fY];exact oO (by omega)
  by_cases h0:0 <v
  ·
   rw[if_pos h0]at h2;have G:ba O++[[.int .i64 0,.int .i64 (q:Int),.int .i64 0,.int .i64 v]]=ba (O++[⟨0,(q:Int),0,v⟩]):=(mR O [⟨0,(q:Int),0,v⟩])
   repeat'(first
|(with_reducible first|apply am.seq|apply am.block)
|((with_reducible apply am.text);(try case hm=>exact rfl))
|((with_reducible apply am.drawn);(case hm=>exact rfl))
|(with_reducible first|apply am.skip|apply dx)
|((with_reducible apply am.ew);(case hc=>exact rfl))
|((with_reducible apply aa.aR);(case hp=>exact aA))
|(with_reducible first|apply aa.cI|apply aa.eE)
|((with_reducible apply aa.u);(case hx=>((with_reducible apply ac.da);(case hs=>exact fun _=>rfl);(case ha|ht=>exact rfl);(case hr=>first|(with_reducible exact c7)|(with_reducible exact rw1)|(with_reducible exact c8)|(with_reducible exact rw3)|(with_reducible exact rw4)|exact rfl);(case hx|hy|hn|hb|hok=>exact rfl);(case hlen=>exact U);(case hv=>exact G);(case hk=>exact de);(case hf=>exact leq))))
|((with_reducible apply aa.u0);(case hx=>first
|(exact ap kC)
|exact af))
|fail)
   exact⟨(q+1,true,O++[⟨0,(q:Int),0,v⟩]),rfl,rfl,⟨by dsimp only;omega,by simp;omega,by dsimp only;rw[List.append_assoc];exact h2⟩,by dsimp only;omega⟩
  ·
   rw[if_neg h0]at h2;refine ak ?_;exact⟨(q+1,an,O),rfl,rfl,⟨by dsimp only;omega,by dsimp only;omega,h2⟩,by dsimp only;omega⟩
 ·
  rw[ez h3]at h2;unfold aT at h2;rw[List.append_nil]at h2;have hO:=h2;rw[<- hO]at hT al;refine ak ?_;refine ax.cA (fun x:Nat×Bool×List bE=>[(10,.ls 2),(13,.t (.int .i64 (x.1:Int)))]) (fun x=>[.box false 30 (([ay m.ai,.arr (bq m.tables),.arr (bX m.bx),.arr (dc m.cons),.arr (dk m.ops),.arr (cK m.au),.arr (cu m.aG)]:List AV).map .t),.box false 35 (([.arr (eA p.ao),.arr (dO p.aD),.arr (cw p.places),ay p.bh]:List AV).map .t),.row false x.2.1 4 (ba x.2.2)]) (fun x=>x.1<=p.aD.length/\x.2.2.length<=O.length+x.1/\x.2.2++dt m k R x.1 (p.aD.drop x.1)=T) (fun x=>p.aD.length - x.1) (0,an,O) rfl rfl ⟨by dsimp only;omega,by dsimp only;omega,hT⟩ (fun x hq=>?_);obtain⟨z,av,I⟩:=x;dsimp only at hq⊢;obtain⟨g1,a8,y⟩:=hq;rcases Nat.lt_or_ge z p.aD.length with g3|g3
  ·
   obtain⟨L,hx⟩:=aj g3;have a6:=List.mem_of_getElem? hx;have kt:=kt L z hx;have V:=V L z hx;have J:=J L z hx;rw[bK hx]at y;unfold dt at y;have U:b6 ((ba I).length+1) 32=true:=by rw[fY];exact oO (by omega)
   cases hb:fD L k with
   |true=>
    have J:=J hb;rw[hb]at kt;rw[hb,if_pos rfl]at y;obtain⟨E,hE⟩:∃E,jd m L k=E:=⟨_,rfl⟩;rw[hE]at J y
    cases hw:jZ m L k with
    |true=>
     rw[hw]at V;rw[hw,if_pos rfl]at y;have G:ba I++[[.int .i64 1,.int .i64 (z:Int),.int .i64 E,.int .i64 R]]=ba (I++[⟨1,(z:Int),E,R⟩]):=(mR I [⟨1,(z:Int),E,R⟩])
     repeat'(first
|(with_reducible first|apply am.seq|apply am.block)
|((with_reducible apply am.text);(try case hm=>exact rfl))
|(with_reducible first|apply am.skip|apply dx)
|((with_reducible apply am.ew);(case hc=>exact rfl))
|((with_reducible apply aa.aR);(case hp=>exact aA))
|(with_reducible first|apply aa.cI|apply aa.eE)
|((with_reducible apply aa.u);(case hx=>((with_reducible apply ac.da);(case hs=>exact fun _=>rfl);(case ha|ht=>exact rfl);(case hr=>first|(with_reducible exact c7)|(with_reducible exact rw1)|(with_reducible exact c8)|(with_reducible exact rw3)|(with_reducible exact rw4)|exact rfl);(case hx|hy|hn|hb|hok=>exact rfl);(case hlen=>exact U);(case hv=>exact G);(case hk=>exact de);(case hf=>exact leq))))
|((with_reducible apply aa.u0);(case hx=>first
|(exact ap kt)
|(exact ap V)
|(exact ap J)
|exact af))
|fail)
     exact⟨(z+1,true,I++[⟨1,(z:Int),E,R⟩]),rfl,rfl,⟨by dsimp only;omega,by simp;omega,by dsimp only;rw[List.append_assoc];exact y⟩,by dsimp only;omega⟩
    |false=>
     rw[hw]at V;rw[hw,if_neg (by decide)]at y;have G:ba I++[[.int .i64 1,.int .i64 (z:Int),.int .i64 E,.int .i64 1]]=ba (I++[⟨1,(z:Int),E,1⟩]):=(mR I [⟨1,(z:Int),E,1⟩])
     repeat'(first
|(with_reducible first|apply am.seq|apply am.block)
|((with_reducible apply am.text);(try case hm=>exact rfl))
|(with_reducible first|apply am.skip|apply dx)
|((with_reducible apply am.ew);(case hc=>exact rfl))
|((with_reducible apply am.jB);(case hc=>exact rfl))
|((with_reducible apply aa.aR);(case hp=>exact aA))
|(with_reducible first|apply aa.cI|apply aa.eE)
|((with_reducible apply aa.u);(case hx=>((with_reducible apply ac.da);(case hs=>exact fun _=>rfl);(case ha|ht=>exact rfl);(case hr=>first|(with_reducible exact c7)|(with_reducible exact rw1)|(with_reducible exact c8)|(with_reducible exact rw3)|(with_reducible exact rw4)|exact rfl);(case hx|hy|hn|hb|hok=>exact rfl);(case hlen=>exact U);(case hv=>exact G);(case hk=>exact de);(case hf=>exact leq))))
|((with_reducible apply aa.u0);(case hx=>first
|(exact ap kt)
|(exact ap V)
|(exact ap J)
|exact af))
|fail)
     exact⟨(z+1,true,I++[⟨1,(z:Int),E,1⟩]),rfl,rfl,⟨by dsimp only;omega,by simp;omega,by dsimp only;rw[List.append_assoc];exact y⟩,by dsimp only;omega⟩
   |false=>
    rw[hb]at kt;rw[hb,if_neg (by decide)]at y;refine ak ?_;exact⟨(z+1,av,I),rfl,rfl,⟨by dsimp only;omega,by dsimp only;omega,y⟩,by dsimp only;omega⟩
  ·
   rw[ez g3]at y;unfold dt at y;rw[List.append_nil]at y;rw[<- y];exact ae
def OP{m:Md}{p:Pln}{k:Int}(h:PW m p)(hl:mj m)(hv:cX m p=true)(hk:bC m k=true)(aB:p.ao.length<=100000000):Cl ah 82 [.t (bk m),.t (aN p),.t (.int .i64 k)] [] (.ls 0) [.row false false 4 (ba (aT m k (-1) 0 p.ao))]:=by
 have Z:=ut h;have aX:=fN m.au;have a8:=h.md.au;obtain⟨aJ,aV⟩:=eC.1 hk;have z:=jR.1 hv;have I:=z.kV;have a6:=kE p.ao;have a1:=nx m.cons;have al:=h.pl.ao;have ag:=h.md.cons;obtain⟨a,ha⟩:=aj (xs:=m.au) (k:=k.toNat) (by omega);have an:=ei ha;have D:=fun r hr=>Fy (r:=r) I hl hk ha hr;obtain⟨T,hT⟩:∃C,aT m k (-1) 0 p.ao=C:=⟨_,rfl⟩;rw[hT];rw[hv]at Z;rw[te]at D;unfold aN at Z⊢;rw[aS,bt]at Z⊢;refine Cl.aq rfl Tryz.func82 rfl rfl rfl ?_;refine ak ?_;refine ax.cA (fun x:Nat×Bool×List bE=>[(7,.ls 2),(8,.t (.int .i64 (x.1:Int)))]) (fun x=>[.box false 30 (([ay m.ai,.arr (bq m.tables),.arr (bX m.bx),.arr (dc m.cons),.arr (dk m.ops),.arr (cK m.au),.arr (cu m.aG)]:List AV).map .t),.box false 35 (([.arr (eA p.ao),.arr (dO p.aD),.arr (cw p.places),ay p.bh]:List AV).map .t),.row false x.2.1 4 (ba x.2.2)]) (fun x=>x.1<=p.ao.length/\x.2.2.length<=x.1/\x.2.2++aT m k (-1) x.1 (p.ao.drop x.1)=T) (fun x=>p.ao.length - x.1) (0,false,[]) rfl rfl ⟨by dsimp only;omega,by simp,hT⟩ (fun x hq=>?_);obtain⟨q,ab,O⟩:=x;dsimp only at hq⊢;obtain⟨h1,ad,h2⟩:=hq;rcases Nat.lt_or_ge q p.ao.length with h3|h3
 ·
  obtain⟨x,hx⟩:=aj h3;have hc:=oD hx;obtain⟨⟨g1,g2⟩,_⟩:=z.ao x (List.mem_of_getElem? hx);obtain⟨c,G⟩:=aj (xs:=m.cons) (k:=x.bz.toNat) (by omega);have av:=mB G;have y:=z.row (List.mem_of_getElem? hx);have D:=D (rowOf m x) y;have hb:=vg (k:=k) I hk y;rw[bK hx]at h2;unfold aT at h2;have en:∀v:Int,-1*v=0 - v:=fun v=>by omega
  rw[en]at h2;obtain⟨v,V⟩:∃v,dY m k (rowOf m x)=v:=⟨_,rfl⟩;rw[V]at D hb h2;rw[wZ G,sk]at D;have J:b6 ((ba O).length+1) 32=true:=by rw[fY];exact oO (by omega)
  by_cases h0:0 <0 - v
  ·
   rw[if_pos h0]at h2;have U:ba O++[[.int .i64 0,.int .i64 (q:Int),.int .i64 0,.int .i64 (0 - v)]]=ba (O++[⟨0,(q:Int),0,0 - v⟩]):=(mR O [⟨0,(q:Int),0,0 - v⟩])
   repeat'(first
|(with_reducible first|apply am.seq|apply am.block)
|((with_reducible apply am.text);(try case hm=>exact rfl))
|((with_reducible apply am.drawn);(case hm=>exact rfl))
|(with_reducible first|apply am.skip|apply dx)
|((with_reducible apply am.ew);(case hc=>exact rfl))
|((with_reducible apply aa.aR);(case hp=>exact aA))
|(with_reducible first|apply aa.cI|apply aa.eE)
|((with_reducible apply aa.u);(case hx=>((with_reducible apply ac.da);(case hs=>exact fun _=>rfl);(case ha|ht=>exact rfl);(case hr=>first|(with_reducible exact c7)|(with_reducible exact rw1)|(with_reducible exact c8)|(with_reducible exact rw3)|(with_reducible exact rw4)|exact rfl);(case hx|hy|hn|hb|hok=>exact rfl);(case hlen=>exact J);(case hv=>exact U);(case hk=>exact de);(case hf=>exact leq))))
|((with_reducible apply aa.u0);(case hx=>first
|((with_reducible apply ac.fZ);(case hx=>exact rfl);(case h=>omega))
|(exact ap D)
|exact af))
|fail)
   exact⟨(q+1,true,O++[⟨0,(q:Int),0,0 - v⟩]),rfl,rfl,⟨by dsimp only;omega,by simp;omega,by dsimp only;rw[List.append_assoc];exact h2⟩,by dsimp only;omega⟩
  ·
   rw[if_neg h0]at h2;refine ak ?_;exact⟨(q+1,ab,O),rfl,rfl,⟨by dsimp only;omega,by dsimp only;omega,h2⟩,by dsimp only;omega⟩
 ·
  rw[ez h3]at h2;unfold aT at h2;rw[List.append_nil]at h2;subst h2;exact ae
end Go.Proofs.YtjolgbkkocjpgaaGreatDoor
