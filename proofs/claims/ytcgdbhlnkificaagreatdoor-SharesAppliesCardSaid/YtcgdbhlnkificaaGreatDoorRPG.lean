/- What the reference's plans ask of actions:. No condition. -/
import Derived.Test.YtcgdbhlnkificaaGreatDoorTPJ
set_option linter.all false
namespace Go.Proofs.YtcgdbhlnkificaaGreatDoor
open Go.RowKit
set_option maxRecDepth 100000
set_option maxHeartbeats 32000000
def Sn{m:Md}{k:Int}{r:Rw}{a:eF}(h:b6 m=true)(hl:Q3 m)(hk:b9 m k=true)(ha:m.ax[k.toNat]?=some a)(hr:cI (bW m.ao m.tables true).length r=true):Cl aj 126 [.t (.agg (qG a.eff)),.t (.agg (fa r))] [] (.t (.int .i64 (eW m k r))) []:=by
 have hd:=xL h hk;have e:m.ax.getD k.toNat fD=a:=by rw[List.getD_eq_getElem?_getD,ha];rfl
 unfold eW;rw[e]at hd⊢;exact So (by have:=EX h;omega) hd (v_ hr) (hl a (List.mem_of_getElem? ha))
def Su{m:Md}{p:Pln}{k R:Int}(h:PW m p)(hl:Q3 m)(hn:vk m p k R=true)(bt:p.aM.length<=100000000):Cl aj 96 [.t (bN m),.t (a_ p),.t (.int .i64 k),.t (.int .i64 R)] [] (.aN [.ls 0,.t (.bool (h_ p k))]) [.row false false 4 (cH (dS m p k R))]:=by
 have kv:=zZ h;have bZ:=jl m.ax;have b4:=h.md.ax;obtain⟨hv,⟨av,aT⟩,bk,bl⟩:=C0.1 hn;have hk:b9 m k=true:=jB.2 ⟨av,aT⟩;have D:=kU.1 hv;have ad:=D.lH;have b3:=kP p.aA;have bi:=h.pl.aA;have bS:=D.gb;have b2:=sF p.aM;have b1:=qE m.cons;have bf:=h.pl.aM;have be:=h.md.cons;obtain⟨a,ha⟩:=am (xs:=m.ax) (k:=k.toNat) (by omega);have bm:=fF ha;have kC:=fun r hr=>Sn (r:=r) ad hl hk ha hr;have kp:=NS (p:=p) (k:=k) (by have:=h.pl.places;omega);have kt:=fun(L:Lck) (q:Nat) (hL:p.aA[q]?=some L)=>Sw (k:=k) (i:=(q:Int)) h.pl (by omega) (by rw[Int.toNat_natCast];exact hL);have V:=fun(L:Lck) (q:Nat) (hL:p.aA[q]?=some L)=>Sy (k:=k) (i:=(q:Int)) h.md h.pl (by omega) (by rw[Int.toNat_natCast];exact hL) hk;have J:=fun(L:Lck) (q:Nat) (hL:p.aA[q]?=some L) hb=>Sv (k:=k) (i:=(q:Int)) h.md h.pl ad (by omega) (by rw[Int.toNat_natCast];exact hL) (lE.1 (D.lock L (List.mem_of_getElem? hL))) hb;have al:=BK (m:=m) (k:=k) (sg:=1) p.aM 0;obtain⟨T1,ab⟩:∃C,cZ m k 1 0 p.aM=C:=⟨_,rfl⟩;obtain⟨T,hT⟩:∃T,T1++fy m k R 0 p.aA=T:=⟨_,rfl⟩;have e0:dS m p k R=T:=by unfold dS;rw[ab,hT]
 rw[e0];rw[ab]at al;rw[hv]at kv;rw[IR]at kC;obtain⟨pb,aX⟩:∃b,h_ p k=b:=⟨_,rfl⟩;rw[aX]at kp⊢;unfold a_ at kv kp kt V J⊢;rw[aZ]at kv V J⊢;rw[bK]at kv kp kt V J⊢;refine Cl.ap rfl Tryz.func96 rfl rfl rfl ?_;refine aq ?_;refine az.c8 (fun x:Nat×Bool×List cz=>[(10,.ls 2),(11,.t (.int .i64 (x.1:Int)))]) (fun x=>[.box false 30 (([aD m.ao,.arr (bC m.tables),.arr (cq m.bH),.arr (fk m.cons),.arr (fv m.ops),.arr (eg m.ax),.arr (c7 m.aG)]:List AV).map .t),.box false 35 (([.arr (gJ p.aM),.arr (fM p.aA),.arr (cM p.places),aD p.bj]:List AV).map .t),.row false x.2.1 4 (cH x.2.2)]) (fun x=>x.1<=p.aM.length/\x.2.2.length<=x.1/\x.2.2++cZ m k 1 x.1 (p.aM.drop x.1)=T1) (fun x=>p.aM.length - x.1) (0,false,[]) rfl rfl ⟨by dsimp only;omega,by simp,ab⟩ (fun x hq=>?_);obtain⟨q,an,O⟩:=x;dsimp only at hq⊢;obtain⟨h1,bd,h2⟩:=hq;rcases Nat.lt_or_ge q p.aM.length with h3|h3
 ·
  obtain⟨x,hx⟩:=am h3;have hc:=sE hx;obtain⟨⟨g1,y⟩,_⟩:=D.aM x (List.mem_of_getElem? hx);obtain⟨c,ag⟩:=am (xs:=m.cons) (k:=x.bu.toNat) (by omega);have bo:=ph ag;have Z:=D.row (List.mem_of_getElem? hx);have kC:=kC (rowOf m x) Z;have hb:=HX (k:=k) ad hk Z;rw[bG hx]at h2;unfold cZ at h2;rw[Int.one_mul]at h2;obtain⟨v,a1⟩:∃v,eW m k (rowOf m x)=v:=⟨_,rfl⟩;rw[a1]at kC hb h2;rw[NO ag,Ad]at kC;have U:cn ((cH O).length+1) 32=true:=by rw[tA];exact yO (by omega)
  by_cases h0:0 <v
  ·
   rw[if_pos h0]at h2;have G:cH O++[[.int .i64 0,.int .i64 (q:Int),.int .i64 0,.int .i64 v]]=cH (O++[⟨0,(q:Int),0,v⟩]):=(vI O [⟨0,(q:Int),0,v⟩])
   repeat'(first
|(with_reducible first|apply ac.seq|apply ac.block)
|((with_reducible apply ac.text);(try case hm=>exact rfl))
|((with_reducible apply ac.drawn);(case hm=>exact rfl))
|(with_reducible first|apply ac.skip|apply aH)
|((with_reducible apply ac.aR);(case hc=>exact rfl))
|((with_reducible apply aa.aF);(case hp=>exact ak))
|(with_reducible first|apply aa.aB|apply aa.dF)
|((with_reducible apply aa.u);(case hx=>((with_reducible apply af.ei);(case hs=>exact fun _=>rfl);(case ha|ht=>exact rfl);(case hr=>first|(with_reducible exact ec)|(with_reducible exact rw1)|(with_reducible exact ed)|(with_reducible exact rw3)|(with_reducible exact rw4)|exact rfl);(case hx|hy|hn|hb|hok=>exact rfl);(case hlen=>exact U);(case hv=>exact G);(case hk=>exact ez);(case hf=>exact leq))))
|((with_reducible apply aa.u0);(case hx=>first
|(exact ai kC)
|exact ae))
|fail)
   exact⟨(q+1,true,O++[⟨0,(q:Int),0,v⟩]),rfl,rfl,⟨by dsimp only;omega,by simp;omega,by dsimp only;rw[List.append_assoc];exact h2⟩,by dsimp only;omega⟩
  ·
   rw[if_neg h0]at h2;refine aq ?_;exact⟨(q+1,an,O),rfl,rfl,⟨by dsimp only;omega,by dsimp only;omega,h2⟩,by dsimp only;omega⟩
 ·
  rw[eY h3]at h2;unfold cZ at h2;rw[List.append_nil]at h2;have hO:=h2;rw[<- hO]at hT al;refine aq ?_;refine az.c8 (fun x:Nat×Bool×List cz=>[(10,.ls 2),(13,.t (.int .i64 (x.1:Int)))]) (fun x=>[.box false 30 (([aD m.ao,.arr (bC m.tables),.arr (cq m.bH),.arr (fk m.cons),.arr (fv m.ops),.arr (eg m.ax),.arr (c7 m.aG)]:List AV).map .t),.box false 35 (([.arr (gJ p.aM),.arr (fM p.aA),.arr (cM p.places),aD p.bj]:List AV).map .t),.row false x.2.1 4 (cH x.2.2)]) (fun x=>x.1<=p.aA.length/\x.2.2.length<=O.length+x.1/\x.2.2++fy m k R x.1 (p.aA.drop x.1)=T) (fun x=>p.aA.length - x.1) (0,an,O) rfl rfl ⟨by dsimp only;omega,by dsimp only;omega,hT⟩ (fun x hq=>?_);obtain⟨z,au,I⟩:=x;dsimp only at hq⊢;obtain⟨g1,bb,y⟩:=hq;rcases Nat.lt_or_ge z p.aA.length with g3|g3
  ·
   obtain⟨L,hx⟩:=am g3;have a6:=List.mem_of_getElem? hx;have kt:=kt L z hx;have V:=V L z hx;have J:=J L z hx;rw[bG hx]at y;unfold fy at y;have U:cn ((cH I).length+1) 32=true:=by rw[tA];exact yO (by omega)
   cases hb:gL L k with
   |true=>
    have J:=J hb;rw[hb]at kt;rw[hb,if_pos rfl]at y;obtain⟨E,hE⟩:∃E,j9 m L k=E:=⟨_,rfl⟩;rw[hE]at J y
    cases hw:mN m L k with
    |true=>
     rw[hw]at V;rw[hw,if_pos rfl]at y;have G:cH I++[[.int .i64 1,.int .i64 (z:Int),.int .i64 E,.int .i64 R]]=cH (I++[⟨1,(z:Int),E,R⟩]):=(vI I [⟨1,(z:Int),E,R⟩])
     repeat'(first
|(with_reducible first|apply ac.seq|apply ac.block)
|((with_reducible apply ac.text);(try case hm=>exact rfl))
|(with_reducible first|apply ac.skip|apply aH)
|((with_reducible apply ac.aR);(case hc=>exact rfl))
|((with_reducible apply aa.aF);(case hp=>exact ak))
|(with_reducible first|apply aa.aB|apply aa.dF)
|((with_reducible apply aa.u);(case hx=>((with_reducible apply af.ei);(case hs=>exact fun _=>rfl);(case ha|ht=>exact rfl);(case hr=>first|(with_reducible exact ec)|(with_reducible exact rw1)|(with_reducible exact ed)|(with_reducible exact rw3)|(with_reducible exact rw4)|exact rfl);(case hx|hy|hn|hb|hok=>exact rfl);(case hlen=>exact U);(case hv=>exact G);(case hk=>exact ez);(case hf=>exact leq))))
|((with_reducible apply aa.u0);(case hx=>first
|(exact ai kt)
|(exact ai V)
|(exact ai J)
|exact ae))
|fail)
     exact⟨(z+1,true,I++[⟨1,(z:Int),E,R⟩]),rfl,rfl,⟨by dsimp only;omega,by simp;omega,by dsimp only;rw[List.append_assoc];exact y⟩,by dsimp only;omega⟩
    |false=>
     rw[hw]at V;rw[hw,if_neg (by decide)]at y;have G:cH I++[[.int .i64 1,.int .i64 (z:Int),.int .i64 E,.int .i64 1]]=cH (I++[⟨1,(z:Int),E,1⟩]):=(vI I [⟨1,(z:Int),E,1⟩])
     repeat'(first
|(with_reducible first|apply ac.seq|apply ac.block)
|((with_reducible apply ac.text);(try case hm=>exact rfl))
|(with_reducible first|apply ac.skip|apply aH)
|((with_reducible apply ac.aR);(case hc=>exact rfl))
|((with_reducible apply ac.aY);(case hc=>exact rfl))
|((with_reducible apply aa.aF);(case hp=>exact ak))
|(with_reducible first|apply aa.aB|apply aa.dF)
|((with_reducible apply aa.u);(case hx=>((with_reducible apply af.ei);(case hs=>exact fun _=>rfl);(case ha|ht=>exact rfl);(case hr=>first|(with_reducible exact ec)|(with_reducible exact rw1)|(with_reducible exact ed)|(with_reducible exact rw3)|(with_reducible exact rw4)|exact rfl);(case hx|hy|hn|hb|hok=>exact rfl);(case hlen=>exact U);(case hv=>exact G);(case hk=>exact ez);(case hf=>exact leq))))
|((with_reducible apply aa.u0);(case hx=>first
|(exact ai kt)
|(exact ai V)
|(exact ai J)
|exact ae))
|fail)
     exact⟨(z+1,true,I++[⟨1,(z:Int),E,1⟩]),rfl,rfl,⟨by dsimp only;omega,by simp;omega,by dsimp only;rw[List.append_assoc];exact y⟩,by dsimp only;omega⟩
   |false=>
    rw[hb]at kt;rw[hb,if_neg (by decide)]at y;refine aq ?_;exact⟨(z+1,au,I),rfl,rfl,⟨by dsimp only;omega,by dsimp only;omega,y⟩,by dsimp only;omega⟩
  ·
   rw[eY g3]at y;unfold fy at y;rw[List.append_nil]at y;rw[<- y];exact ah
end Go.Proofs.YtcgdbhlnkificaaGreatDoor
