/- Law 39: what an event does to rights,as contracts. No condition. -/
import Derived.Test.YtjolgbkkocjpgaaGreatDoorTRC
import Derived.Test.YtjolgbkkocjpgaaGreatDoorTLX
set_option linter.defProp false
set_option linter.unusedSimpArgs false
set_option linter.unusedVariables false
set_option linter.unusedSectionVars false
namespace Go.Proofs.YtjolgbkkocjpgaaGreatDoor
open Go.RowKit
set_option maxRecDepth 100000
set_option maxHeartbeats 32000000
theorem wa{N R:Nat}:∀{S:List dF} {z:List (List Int)},(∀s∈S,dX N R s)->dt N R z->dt N R (S.foldl cH z)
 |[],z,_,h=>h
 |s::S,z,u,h=>wa (S:=S) (z:=cH z s) (fun t v=>u t (by simp[v])) (s_ h (u s (by simp)))
def Pf{m:Md}{p:Pln}{e:Ev}{z0:List (List Int)}(h:v8 m p e)(G:dt p.aw.length e.past.length z0):Cl ai 37 [.t (bz m),.t (ba p),.t (cV e),.fn (.func 49) 0 [.lp 0 0]] [.box false 38 [.lo 1 []],.own false (.arr (aO z0))] (.aL []) [.box false 38 [.lo 1 []],.own false (.arr (aO ((fu m p e).foldl cH z0)))]:=by
 obtain⟨er,en,et,P,K,u,gk,gi,ge,ga,D,pl,se⟩:=e;obtain⟨aS,ag,hr,Z,al,b1⟩:=h;dsimp only at ag hr Z al G;obtain⟨r,rfl⟩:=Int.eq_ofNat_of_zero_le hr.1;have V:r <P.length:=by omega
 have ch:=aQ P;by_cases hK:K=0
 ·
  subst hK;have aD:=Z rfl;obtain⟨hv,⟨bb,bc⟩,b4,cc⟩:=qW.1 aD;have hk:b9 m u=true:=ju.2 ⟨bb,bc⟩;have hS:fu m p ⟨(r:Int),en,et,P,0,u,gk,gi,ge,ga,D,pl,se⟩=cI r (-1) (cJ m p u P.length)++cI r 1 (bK m u (-1) 0 p.aw):=by unfold fu;rw[if_pos rfl];rfl
  have kn:Cl ai 73 [.t (bz m),.t (ba p),.t (.int .i64 u),.t (.int .i64 (P.length:Int))] [] (.aL [.ls 0,.t (.bool (gU p u))]) [.row false false 4 (bW (cJ m p u P.length))]:=zG aS aD (by omega);have kg:=zH aS hv hk (by omega);have hA:=fun x (hx:x∈cJ m p u P.length)=>zM hv hk (R:=P.length) hx;have hB:=fun x (hx:x∈bK m u (-1) 0 p.aw)=>v_ hv hk (.inr rfl) hx
  have bd:(cJ m p u P.length).length<=2000:=by
   have h1:=zL m p u P.length;have:=(l6.1 hv).fo;omega
  have be:(bK m u (-1) 0 p.aw).length<=2000:=by
   have h1:=ta m u (-1) 0 p.aw;omega
  rw[hS,List.foldl_append];have bf:=me (cJ m p u P.length);have bg:=me (bK m u (-1) 0 p.aw);generalize cJ m p u P.length=A at hA bd kn bf⊢;generalize bK m u (-1) 0 p.aw=B at hB be kg bg⊢
  have I:∀s∈cI r (-1) A,dX p.aw.length P.length s:=fun s hs=>by
   unfold cI at hs;obtain⟨x,hx,rfl⟩:=List.mem_map.1 hs;rw[List.mem_filter,decide_eq_true_eq]at hx;obtain⟨j,h1,h2,h3,h4⟩:=hA x hx.1 hx.2;exact⟨by dsimp only;omega,V⟩
  have J:∀q,∀s∈cI r (-1) (A.take q),dX p.aw.length P.length s:=fun q s hs=>I s (zN hs);obtain⟨pb,bl⟩:∃b,gU p u=b:=⟨_,rfl⟩;rw[bl]at kn;unfold ba at kn kg⊢;unfold cV c9;rw[aW,bX]at kn kg⊢;dsimp only;refine Cl.ao rfl Tryz.func37 rfl rfl rfl ?_;refine ar ?_;refine aC.cB (fun x:Nat×(List (List Int))=>[(31,.t (.int .i64 (x.1:Int)))]) (fun x=>[.box false 38 [.lo 1 []],.own false (.arr (aO x.2)),.box false 30 (([ax m.ak,.arr (br m.tables),.arr (b5 m.bw),.arr (dN m.cons),.arr (dO m.ops),.arr (de m.ay),.arr (cG m.aI)]:List AV).map .t),.box false 35 (([.arr (fq p.aw),.arr (e_ p.aR),.arr (cK p.places),ax p.bI]:List AV).map .t),.box false 57 (([.int .i64 (r:Int),.int .i64 en,.int .i64 et,ax P,.int .i64 0,.int .i64 u,.int .i64 gk,.int .i64 gi,.int .i64 ge,.int .i64 ga,.int .i64 D,.int .i64 pl,.int .i64 se]:List AV).map .t),.row false false 4 (bW A)]) (fun x=>x.1<=A.length/\x.2=(cI r (-1) (A.take x.1)).foldl cH z0) (fun x=>A.length - x.1) (0,z0) rfl rfl ⟨by dsimp only;omega,rfl⟩ (fun x hq=>?_);obtain⟨q,z⟩:=x;dsimp only at hq⊢;obtain⟨h1,h2⟩:=hq;rcases Nat.lt_or_ge q A.length with h3|h3
  ·
   obtain⟨x,hx⟩:=am h3;have hc:=qQ hx;have v:=qZ (r:=r) (sg := -1) hx;have U:=List.mem_of_getElem? hx;have an:dt p.aw.length P.length z:=by rw[h2];exact wa (J q) G
   obtain⟨xk,xi,xe,xn⟩:=x;dsimp only at hc v;by_cases a6:xk=0
   ·
    subst a6;obtain⟨j,hj,au,ab,ad⟩:=hA _ U rfl;dsimp only at au ab ad;subst au;rw[if_pos rfl]at v;have hs:dX p.aw.length P.length ⟨j,r,0 - xn⟩:=⟨hj,V⟩;have kc:=vZ (s:=⟨j,r,0 - xn⟩) an hs;dsimp only at kc
    repeat'(first
|(with_reducible first|apply ac.seq|apply ac.block)
|((with_reducible apply ac.text);(try case hm=>exact rfl))
|(with_reducible first|apply ac.skip|apply az)
|((with_reducible apply ac.aA);(case hc=>exact rfl))
|((with_reducible apply aa.aE);(case hp=>exact aj))
|(with_reducible first|apply aa.ap|apply aa.bj)
|((with_reducible apply aa.u0);(case hx=>first
|((with_reducible apply ae.gX);(case hx=>exact rfl);(case h=>omega))
|(exact gp [0,1] kc)
|exact ah))
|fail)
    refine⟨(q+1,cH z ⟨j,r,0 - xn⟩),rfl,rfl,⟨by dsimp only;omega,?_⟩,by dsimp only;omega⟩;dsimp only;rw[v,List.foldl_append,<- h2];simp
   ·
    rw[if_neg a6,List.append_nil]at v;refine ar ?_;refine⟨(q+1,z),rfl,rfl,⟨by dsimp only;omega,?_⟩,by dsimp only;omega⟩;dsimp only;rw[v];exact h2
  ·
   rw[List.take_of_length_le h3]at h2;rw[<- h2];have an:dt p.aw.length P.length z:=by rw[h2];exact wa I G
   clear h2 kn hA I J G;refine ar ?_;refine aC.cB (fun x:Nat×(List (List Int))=>[(56,.t (.int .i64 (x.1:Int)))]) (fun x=>[.box false 38 [.lo 1 []],.own false (.arr (aO x.2)),.box false 30 (([ax m.ak,.arr (br m.tables),.arr (b5 m.bw),.arr (dN m.cons),.arr (dO m.ops),.arr (de m.ay),.arr (cG m.aI)]:List AV).map .t),.box false 35 (([.arr (fq p.aw),.arr (e_ p.aR),.arr (cK p.places),ax p.bI]:List AV).map .t),.box false 57 (([.int .i64 (r:Int),.int .i64 en,.int .i64 et,ax P,.int .i64 0,.int .i64 u,.int .i64 gk,.int .i64 gi,.int .i64 ge,.int .i64 ga,.int .i64 D,.int .i64 pl,.int .i64 se]:List AV).map .t),.row false false 4 (bW A),.row false false 4 (bW B)]) (fun x=>x.1<=B.length/\x.2=(cI r (1) (B.take x.1)).foldl cH z) (fun x=>B.length - x.1) (0,z) rfl rfl ⟨by dsimp only;omega,rfl⟩ (fun x hq=>?_);obtain⟨q,y⟩:=x;dsimp only at hq⊢;obtain⟨h1,h2⟩:=hq;rcases Nat.lt_or_ge q B.length with h3|h3
   ·
    obtain⟨x,hx⟩:=am h3;have hc:=qQ hx;have v:=qZ (r:=r) (sg:=1) hx;have U:=List.mem_of_getElem? hx;obtain⟨j,hj,bO,ab,ad⟩:=hB x U;obtain⟨xk,xi,xe,xn⟩:=x;injection bO with e1 e2 e3 e4
    subst e1 e2 e3;dsimp only at hc v ab ad;rw[if_pos rfl]at v
    have bZ:dt p.aw.length P.length y:=by
     rw[h2];refine wa (fun s hs=>?_) an;unfold cI at hs;obtain⟨x,hx,rfl⟩:=List.mem_map.1 hs;rw[List.mem_filter]at hx;obtain⟨j',cf,bN,_⟩:=hB x (List.mem_of_mem_take hx.1);rw[bN];exact⟨by dsimp only;omega,V⟩
    have hs:dX p.aw.length P.length ⟨j,r,xn⟩:=⟨hj,V⟩;have kc:=vZ (s:=⟨j,r,xn⟩) bZ hs;dsimp only at kc
    repeat'(first
|(with_reducible first|apply ac.seq|apply ac.block)
|((with_reducible apply ac.text);(try case hm=>exact rfl))
|(with_reducible first|apply ac.skip|apply az)
|((with_reducible apply ac.aA);(case hc=>exact rfl))
|((with_reducible apply aa.aE);(case hp=>exact aj))
|(with_reducible first|apply aa.ap|apply aa.bj)
|((with_reducible apply aa.u0);(case hx=>first
|(exact gp [0,1] kc)
|exact ah))
|fail)
    refine⟨(q+1,cH y ⟨j,r,xn⟩),rfl,rfl,⟨by dsimp only;omega,?_⟩,by dsimp only;omega⟩;dsimp only;rw[v,List.foldl_append,<- h2];simp
   ·
    rw[List.take_of_length_le h3]at h2;rw[<- h2];refine ar ?_;exact⟨.inl rfl,rfl⟩
 ·
  have kt:=zO ⟨(r:Int),en,et,P,K,u,gk,gi,ge,ga,D,pl,se⟩;obtain⟨b,hb⟩:∃b,nh ⟨(r:Int),en,et,P,K,u,gk,gi,ge,ga,D,pl,se⟩=b:=⟨_,rfl⟩;rw[hb]at kt al;unfold fu;rw[if_neg (show¬(Ev.k ⟨(r:Int),en,et,P,K,u,gk,gi,ge,ga,D,pl,se⟩)=0 from hK),hb];unfold ba;unfold cV c9 at kt⊢;rw[aW,bX];dsimp only at kt⊢;refine Cl.ao rfl Tryz.func37 rfl rfl rfl ?_
  cases b with
  |true=>
   obtain⟨⟨a_,cd⟩,⟨bF,cl⟩,b2,b3⟩:=al rfl;obtain⟨g,rfl⟩:=Int.eq_ofNat_of_zero_le a_;obtain⟨t,rfl⟩:=Int.eq_ofNat_of_zero_le bF;have a1:dX p.aw.length P.length ⟨g,r,0 - ga⟩:=⟨by show g <_;omega,V⟩;have bm:dX p.aw.length P.length ⟨g,t,ga⟩:=⟨by show g <_;omega,by show t <_;omega⟩;have k1:=vZ (s:=⟨g,r,0 - ga⟩) G a1;have b0:dt p.aw.length P.length (cH z0 ⟨g,r,0 - ga⟩):=s_ G a1;have k2:=vZ (s:=⟨g,t,ga⟩) b0 bm;rw[if_pos rfl];simp only[Int.toNat_natCast,List.foldl_cons,List.foldl_nil];dsimp only at k1 k2
   repeat'(first
|(with_reducible first|apply ac.seq|apply ac.block)
|((with_reducible apply ac.text);(try case hm=>exact rfl))
|((with_reducible apply ac.aA);(case hc=>exact rfl))
|((with_reducible apply ac.aH);(case hc=>exact rfl))
|((with_reducible apply aa.bC);(case hp=>exact aj))
|(with_reducible first|apply aa.ap|apply aa.bj)
|((with_reducible apply aa.u0);(case hx=>first
|((with_reducible apply ae.gX);(case hx=>exact rfl);(case h=>omega))
|(exact aq kt)
|(exact gp [0,1] k1)
|(exact gp [0,1] k2)
|exact ah))
|fail)
   exact⟨.inl rfl,rfl⟩
  |false=>
   rw[if_neg (by decide)];refine ar ?_;exact⟨.inl rfl,rfl⟩
theorem wb{N R:Nat}:∀{S:List dF} {z:List (List Int)×Int},(∀s∈S,dX N R s)->dt N R z.1->dt N R (S.foldl gZ z).1
 |[],z,_,h=>h
 |s::S,z,u,h=>wb (S:=S) (z:=gZ z s) (fun t v=>u t (by simp[v])) (s_ h (u s (by simp)))
def Pg{m:Md}{p:Pln}{e:Ev}{z0:List (List Int)×Int}(h:v8 m p e)(G:dt p.aw.length e.past.length z0.1):Cl ai 37 [.t (bz m),.t (ba p),.t (cV e),.fn (.func 41) 0 [.lp 0 0,.lp 1 0]] [.box false 38 [.lo 2 []],.box false 39 [.t (.int .i64 z0.2)],.own false (.arr (aO z0.1))] (.aL []) [.box false 38 [.lo 2 []],.box false 39 [.t (.int .i64 ((fu m p e).foldl gZ z0).2)],.own false (.arr (aO ((fu m p e).foldl gZ z0).1))]:=by
 obtain⟨er,en,et,P,K,u,gk,gi,ge,ga,D,pl,se⟩:=e;obtain⟨aS,ag,hr,Z,al,b1⟩:=h;dsimp only at ag hr Z al G;obtain⟨r,rfl⟩:=Int.eq_ofNat_of_zero_le hr.1;have V:r <P.length:=by omega
 have ch:=aQ P;by_cases hK:K=0
 ·
  subst hK;have aD:=Z rfl;obtain⟨hv,⟨bb,bc⟩,b4,cc⟩:=qW.1 aD;have hk:b9 m u=true:=ju.2 ⟨bb,bc⟩;have hS:fu m p ⟨(r:Int),en,et,P,0,u,gk,gi,ge,ga,D,pl,se⟩=cI r (-1) (cJ m p u P.length)++cI r 1 (bK m u (-1) 0 p.aw):=by unfold fu;rw[if_pos rfl];rfl
  have kn:Cl ai 73 [.t (bz m),.t (ba p),.t (.int .i64 u),.t (.int .i64 (P.length:Int))] [] (.aL [.ls 0,.t (.bool (gU p u))]) [.row false false 4 (bW (cJ m p u P.length))]:=zG aS aD (by omega);have kg:=zH aS hv hk (by omega);have hA:=fun x (hx:x∈cJ m p u P.length)=>zM hv hk (R:=P.length) hx;have hB:=fun x (hx:x∈bK m u (-1) 0 p.aw)=>v_ hv hk (.inr rfl) hx
  have bd:(cJ m p u P.length).length<=2000:=by
   have h1:=zL m p u P.length;have:=(l6.1 hv).fo;omega
  have be:(bK m u (-1) 0 p.aw).length<=2000:=by
   have h1:=ta m u (-1) 0 p.aw;omega
  rw[hS,List.foldl_append];have bf:=me (cJ m p u P.length);have bg:=me (bK m u (-1) 0 p.aw);generalize cJ m p u P.length=A at hA bd kn bf⊢;generalize bK m u (-1) 0 p.aw=B at hB be kg bg⊢
  have I:∀s∈cI r (-1) A,dX p.aw.length P.length s:=fun s hs=>by
   unfold cI at hs;obtain⟨x,hx,rfl⟩:=List.mem_map.1 hs;rw[List.mem_filter,decide_eq_true_eq]at hx;obtain⟨j,h1,h2,h3,h4⟩:=hA x hx.1 hx.2;exact⟨by dsimp only;omega,V⟩
  have J:∀q,∀s∈cI r (-1) (A.take q),dX p.aw.length P.length s:=fun q s hs=>I s (zN hs);obtain⟨pb,bl⟩:∃b,gU p u=b:=⟨_,rfl⟩;rw[bl]at kn;unfold ba at kn kg⊢;unfold cV c9;rw[aW,bX]at kn kg⊢;dsimp only;refine Cl.ao rfl Tryz.func37 rfl rfl rfl ?_;refine ar ?_;refine aC.cB (fun x:Nat×(List (List Int)×Int)=>[(31,.t (.int .i64 (x.1:Int)))]) (fun x=>[.box false 38 [.lo 2 []],.box false 39 [.t (.int .i64 x.2.2)],.own false (.arr (aO x.2.1)),.box false 30 (([ax m.ak,.arr (br m.tables),.arr (b5 m.bw),.arr (dN m.cons),.arr (dO m.ops),.arr (de m.ay),.arr (cG m.aI)]:List AV).map .t),.box false 35 (([.arr (fq p.aw),.arr (e_ p.aR),.arr (cK p.places),ax p.bI]:List AV).map .t),.box false 57 (([.int .i64 (r:Int),.int .i64 en,.int .i64 et,ax P,.int .i64 0,.int .i64 u,.int .i64 gk,.int .i64 gi,.int .i64 ge,.int .i64 ga,.int .i64 D,.int .i64 pl,.int .i64 se]:List AV).map .t),.row false false 4 (bW A)]) (fun x=>x.1<=A.length/\x.2=(cI r (-1) (A.take x.1)).foldl gZ z0) (fun x=>A.length - x.1) (0,z0) rfl rfl ⟨by dsimp only;omega,rfl⟩ (fun x hq=>?_);obtain⟨q,z⟩:=x;dsimp only at hq⊢;obtain⟨h1,h2⟩:=hq;rcases Nat.lt_or_ge q A.length with h3|h3
  ·
   obtain⟨x,hx⟩:=am h3;have hc:=qQ hx;have v:=qZ (r:=r) (sg := -1) hx;have U:=List.mem_of_getElem? hx;have an:dt p.aw.length P.length z.1:=by rw[h2];exact wb (J q) G
   obtain⟨xk,xi,xe,xn⟩:=x;dsimp only at hc v;by_cases a6:xk=0
   ·
    subst a6;obtain⟨j,hj,au,ab,ad⟩:=hA _ U rfl;dsimp only at au ab ad;subst au;rw[if_pos rfl]at v;have hs:dX p.aw.length P.length ⟨j,r,0 - xn⟩:=⟨hj,V⟩;have kc:=v6 (s:=⟨j,r,0 - xn⟩) (c:=z.2) an hs;dsimp only at kc
    repeat'(first
|(with_reducible first|apply ac.seq|apply ac.block)
|((with_reducible apply ac.text);(try case hm=>exact rfl))
|(with_reducible first|apply ac.skip|apply az)
|((with_reducible apply ac.aA);(case hc=>exact rfl))
|((with_reducible apply aa.aE);(case hp=>exact aj))
|(with_reducible first|apply aa.ap|apply aa.bj)
|((with_reducible apply aa.u0);(case hx=>first
|((with_reducible apply ae.gX);(case hx=>exact rfl);(case h=>omega))
|(exact gp [0,1,2] kc)
|exact ah))
|fail)
    refine⟨(q+1,gZ z ⟨j,r,0 - xn⟩),rfl,rfl,⟨by dsimp only;omega,?_⟩,by dsimp only;omega⟩;dsimp only;rw[v,List.foldl_append,<- h2];simp
   ·
    rw[if_neg a6,List.append_nil]at v;refine ar ?_;refine⟨(q+1,z),rfl,rfl,⟨by dsimp only;omega,?_⟩,by dsimp only;omega⟩;dsimp only;rw[v];exact h2
  ·
   rw[List.take_of_length_le h3]at h2;rw[<- h2];have an:dt p.aw.length P.length z.1:=by rw[h2];exact wb I G
   clear h2 kn hA I J G;refine ar ?_;refine aC.cB (fun x:Nat×(List (List Int)×Int)=>[(56,.t (.int .i64 (x.1:Int)))]) (fun x=>[.box false 38 [.lo 2 []],.box false 39 [.t (.int .i64 x.2.2)],.own false (.arr (aO x.2.1)),.box false 30 (([ax m.ak,.arr (br m.tables),.arr (b5 m.bw),.arr (dN m.cons),.arr (dO m.ops),.arr (de m.ay),.arr (cG m.aI)]:List AV).map .t),.box false 35 (([.arr (fq p.aw),.arr (e_ p.aR),.arr (cK p.places),ax p.bI]:List AV).map .t),.box false 57 (([.int .i64 (r:Int),.int .i64 en,.int .i64 et,ax P,.int .i64 0,.int .i64 u,.int .i64 gk,.int .i64 gi,.int .i64 ge,.int .i64 ga,.int .i64 D,.int .i64 pl,.int .i64 se]:List AV).map .t),.row false false 4 (bW A),.row false false 4 (bW B)]) (fun x=>x.1<=B.length/\x.2=(cI r (1) (B.take x.1)).foldl gZ z) (fun x=>B.length - x.1) (0,z) rfl rfl ⟨by dsimp only;omega,rfl⟩ (fun x hq=>?_);obtain⟨q,y⟩:=x;dsimp only at hq⊢;obtain⟨h1,h2⟩:=hq;rcases Nat.lt_or_ge q B.length with h3|h3
   ·
    obtain⟨x,hx⟩:=am h3;have hc:=qQ hx;have v:=qZ (r:=r) (sg:=1) hx;have U:=List.mem_of_getElem? hx;obtain⟨j,hj,bO,ab,ad⟩:=hB x U;obtain⟨xk,xi,xe,xn⟩:=x;injection bO with e1 e2 e3 e4
    subst e1 e2 e3;dsimp only at hc v ab ad;rw[if_pos rfl]at v
    have bZ:dt p.aw.length P.length y.1:=by
     rw[h2];refine wb (fun s hs=>?_) an;unfold cI at hs;obtain⟨x,hx,rfl⟩:=List.mem_map.1 hs;rw[List.mem_filter]at hx;obtain⟨j',cf,bN,_⟩:=hB x (List.mem_of_mem_take hx.1);rw[bN];exact⟨by dsimp only;omega,V⟩
    have hs:dX p.aw.length P.length ⟨j,r,xn⟩:=⟨hj,V⟩;have kc:=v6 (s:=⟨j,r,xn⟩) (c:=y.2) bZ hs;dsimp only at kc
    repeat'(first
|(with_reducible first|apply ac.seq|apply ac.block)
|((with_reducible apply ac.text);(try case hm=>exact rfl))
|(with_reducible first|apply ac.skip|apply az)
|((with_reducible apply ac.aA);(case hc=>exact rfl))
|((with_reducible apply aa.aE);(case hp=>exact aj))
|(with_reducible first|apply aa.ap|apply aa.bj)
|((with_reducible apply aa.u0);(case hx=>first
|(exact gp [0,1,2] kc)
|exact ah))
|fail)
    refine⟨(q+1,gZ y ⟨j,r,xn⟩),rfl,rfl,⟨by dsimp only;omega,?_⟩,by dsimp only;omega⟩;dsimp only;rw[v,List.foldl_append,<- h2];simp
   ·
    rw[List.take_of_length_le h3]at h2;rw[<- h2];refine ar ?_;exact⟨.inl rfl,rfl⟩
 ·
  have kt:=zO ⟨(r:Int),en,et,P,K,u,gk,gi,ge,ga,D,pl,se⟩;obtain⟨b,hb⟩:∃b,nh ⟨(r:Int),en,et,P,K,u,gk,gi,ge,ga,D,pl,se⟩=b:=⟨_,rfl⟩;rw[hb]at kt al;unfold fu;rw[if_neg (show¬(Ev.k ⟨(r:Int),en,et,P,K,u,gk,gi,ge,ga,D,pl,se⟩)=0 from hK),hb];unfold ba;unfold cV c9 at kt⊢;rw[aW,bX];dsimp only at kt⊢;refine Cl.ao rfl Tryz.func37 rfl rfl rfl ?_
  cases b with
  |true=>
   obtain⟨⟨a_,cd⟩,⟨bF,cl⟩,b2,b3⟩:=al rfl;obtain⟨g,rfl⟩:=Int.eq_ofNat_of_zero_le a_;obtain⟨t,rfl⟩:=Int.eq_ofNat_of_zero_le bF;have a1:dX p.aw.length P.length ⟨g,r,0 - ga⟩:=⟨by show g <_;omega,V⟩;have bm:dX p.aw.length P.length ⟨g,t,ga⟩:=⟨by show g <_;omega,by show t <_;omega⟩;have k1:=v6 (s:=⟨g,r,0 - ga⟩) (c:=z0.2) G a1;have b0:dt p.aw.length P.length (gZ z0 ⟨g,r,0 - ga⟩).1:=s_ G a1;have k2:=v6 (s:=⟨g,t,ga⟩) (c:=(gZ z0 ⟨g,r,0 - ga⟩).2) b0 bm;rw[if_pos rfl];simp only[Int.toNat_natCast,List.foldl_cons,List.foldl_nil];dsimp only at k1 k2
   repeat'(first
|(with_reducible first|apply ac.seq|apply ac.block)
|((with_reducible apply ac.text);(try case hm=>exact rfl))
|((with_reducible apply ac.aA);(case hc=>exact rfl))
|((with_reducible apply ac.aH);(case hc=>exact rfl))
|((with_reducible apply aa.bC);(case hp=>exact aj))
|(with_reducible first|apply aa.ap|apply aa.bj)
|((with_reducible apply aa.u0);(case hx=>first
|((with_reducible apply ae.gX);(case hx=>exact rfl);(case h=>omega))
|(exact aq kt)
|(exact gp [0,1,2] k1)
|(exact gp [0,1,2] k2)
|exact ah))
|fail)
   exact⟨.inl rfl,rfl⟩
  |false=>
   rw[if_neg (by decide)];refine ar ?_;exact⟨.inl rfl,rfl⟩
set_option maxHeartbeats 16000000
def Ph{C:List Int}{p:Int->Bool}(hl:C.length<=140737488351232)(hp:∀x∈C,Cl ai 70 [.t (.int .i64 x)] [] (.t (.bool (p x))) []):Cl ai 32 [.t (ax C),.t (.fn (.func 70) 0 [])] [] (.t (.int .i64 (a8 p C 0))) []:=by
 have z:=aQ C;refine Cl.ao rfl Tryz.func32 rfl rfl rfl ?_;refine ar ?_;refine aC.ind (fun q:Nat=>[(8,.t (.int .i64 (q:Int)))]) (fun q=>q<=C.length/\a8 p C 0=a8 p (C.drop q) q) (fun q=>C.length - q) 0 rfl (by simp) (fun q D=>?_);obtain⟨h1,h2⟩:=D;rw[h2];rcases Nat.lt_or_ge q C.length with h3|h3
 ·
  obtain⟨e,u⟩:=am h3;have G:=aU u;have v:=hp e (List.mem_of_getElem? u);rw[drop_at u,gV];obtain⟨b,y⟩:∃b,p e=b:=⟨_,rfl⟩;rw[y]at v⊢
  cases b with
  |true=>
   exact af
  |false=>
   exact af
 ·
  rw[List.drop_of_length_le h3];exact af
def Pj{C:List Int}{p:Int->Bool}(hl:C.length<=140737488351232)(hp:∀x∈C,Cl ai 70 [.t (.int .i64 x)] [] (.t (.bool (p x))) []):Cl ai 11 [.t (ax C),.t (.fn (.func 70) 0 [])] [] (.t (.bool (C.any p))) []:=by
 have u:=Ph hl hp;rw[<- gy p C 0 (by omega)];refine Cl.ao rfl Tryz.func11 rfl rfl rfl ?_;obtain⟨n,v⟩:∃n,a8 p C 0=n:=⟨_,rfl⟩;rw[v]at u⊢;exact af
def Pk{C:List Int}{p:Int->Bool}(hl:C.length<=140737488351232)(hp:∀x∈C,Cl ai 35 [.t (.int .i64 x)] [] (.t (.bool (p x))) []):Cl ai 32 [.t (ax C),.t (.fn (.func 35) 0 [])] [] (.t (.int .i64 (a8 p C 0))) []:=by
 have z:=aQ C;refine Cl.ao rfl Tryz.func32 rfl rfl rfl ?_;refine ar ?_;refine aC.ind (fun q:Nat=>[(8,.t (.int .i64 (q:Int)))]) (fun q=>q<=C.length/\a8 p C 0=a8 p (C.drop q) q) (fun q=>C.length - q) 0 rfl (by simp) (fun q D=>?_);obtain⟨h1,h2⟩:=D;rw[h2];rcases Nat.lt_or_ge q C.length with h3|h3
 ·
  obtain⟨e,u⟩:=am h3;have G:=aU u;have v:=hp e (List.mem_of_getElem? u);rw[drop_at u,gV];obtain⟨b,y⟩:∃b,p e=b:=⟨_,rfl⟩;rw[y]at v⊢
  cases b with
  |true=>
   exact af
  |false=>
   exact af
 ·
  rw[List.drop_of_length_le h3];exact af
def Pm{C:List Int}{p:Int->Bool}(hl:C.length<=140737488351232)(hp:∀x∈C,Cl ai 35 [.t (.int .i64 x)] [] (.t (.bool (p x))) []):Cl ai 11 [.t (ax C),.t (.fn (.func 35) 0 [])] [] (.t (.bool (C.any p))) []:=by
 have u:=Pk hl hp;rw[<- gy p C 0 (by omega)];refine Cl.ao rfl Tryz.func11 rfl rfl rfl ?_;obtain⟨n,v⟩:∃n,a8 p C 0=n:=⟨_,rfl⟩;rw[v]at u⊢;exact af
def Pn{C:List (List Int)}{p:(List Int)->Bool}{c1:AV}(hl:C.length<=140737488351232)(hp:∀x∈C,Cl ai 34 [.t (ax x),.t c1] [] (.t (.bool (p x))) []):Cl ai 72 [.t (.arr (aO C)),.t (.fn (.func 34) 0 [c1])] [] (.t (.int .i64 (a8 p C 0))) []:=by
 have z:=jY C;refine Cl.ao rfl Tryz.func72 rfl rfl rfl ?_;refine ar ?_;refine aC.ind (fun q:Nat=>[(8,.t (.int .i64 (q:Int)))]) (fun q=>q<=C.length/\a8 p C 0=a8 p (C.drop q) q) (fun q=>C.length - q) 0 rfl (by simp) (fun q D=>?_);obtain⟨h1,h2⟩:=D;rw[h2];rcases Nat.lt_or_ge q C.length with h3|h3
 ·
  obtain⟨e,u⟩:=am h3;have G:=jv u;have v:=hp e (List.mem_of_getElem? u);rw[drop_at u,gV];obtain⟨b,y⟩:∃b,p e=b:=⟨_,rfl⟩;rw[y]at v⊢
  cases b with
  |true=>
   exact af
  |false=>
   exact af
 ·
  rw[List.drop_of_length_le h3];exact af
def Po{C:List (List Int)}{p:(List Int)->Bool}{c1:AV}(hl:C.length<=140737488351232)(hp:∀x∈C,Cl ai 34 [.t (ax x),.t c1] [] (.t (.bool (p x))) []):Cl ai 33 [.t (.arr (aO C)),.t (.fn (.func 34) 0 [c1])] [] (.t (.bool (C.any p))) []:=by
 have u:=Pn hl hp;rw[<- gy p C 0 (by omega)];refine Cl.ao rfl Tryz.func33 rfl rfl rfl ?_;obtain⟨n,v⟩:∃n,a8 p C 0=n:=⟨_,rfl⟩;rw[v]at u⊢;exact af
def Pp{C:List Int}{p:Int->Bool}(hl:C.length<=140737488351232)(hp:∀x∈C,Cl ai 12 [.t (.int .i64 x)] [] (.t (.bool (p x))) []):Cl ai 32 [.t (ax C),.t (.fn (.func 12) 0 [])] [] (.t (.int .i64 (a8 p C 0))) []:=by
 have z:=aQ C;refine Cl.ao rfl Tryz.func32 rfl rfl rfl ?_;refine ar ?_;refine aC.ind (fun q:Nat=>[(8,.t (.int .i64 (q:Int)))]) (fun q=>q<=C.length/\a8 p C 0=a8 p (C.drop q) q) (fun q=>C.length - q) 0 rfl (by simp) (fun q D=>?_);obtain⟨h1,h2⟩:=D;rw[h2];rcases Nat.lt_or_ge q C.length with h3|h3
 ·
  obtain⟨e,u⟩:=am h3;have G:=aU u;have v:=hp e (List.mem_of_getElem? u);rw[drop_at u,gV];obtain⟨b,y⟩:∃b,p e=b:=⟨_,rfl⟩;rw[y]at v⊢
  cases b with
  |true=>
   exact af
  |false=>
   exact af
 ·
  rw[List.drop_of_length_le h3];exact af
def Pq{C:List Int}{p:Int->Bool}(hl:C.length<=140737488351232)(hp:∀x∈C,Cl ai 12 [.t (.int .i64 x)] [] (.t (.bool (p x))) []):Cl ai 11 [.t (ax C),.t (.fn (.func 12) 0 [])] [] (.t (.bool (C.any p))) []:=by
 have u:=Pp hl hp;rw[<- gy p C 0 (by omega)];refine Cl.ao rfl Tryz.func11 rfl rfl rfl ?_;obtain⟨n,v⟩:∃n,a8 p C 0=n:=⟨_,rfl⟩;rw[v]at u⊢;exact af
theorem FA{α:Type}(p:α->Bool):∀l:List α,(!l.any fun x=>!p x)=l.all p
 |[]=>rfl
 |x::l=>by rw[List.any_cons,List.all_cons,Bool.not_or,FA p l,Bool.not_not]
def zP{α:Type}(p:α->Bool)(l:List α):(l.any fun x=>!p x)=!l.all p:=by rw[<- FA,Bool.not_not]
def Pr(n:Int):Cl ai 35 [.t (.int .i64 n)] [] (.t (.bool (!lA n))) []:=by
 refine Cl.ao rfl Tryz.func35 rfl rfl rfl ?_;unfold lA
 repeat'(first
|(with_reducible apply ac.seq)
|((with_reducible apply ac.text);(try case hm=>exact rfl))
|(with_reducible apply ac.ret)
|((with_reducible apply aa.bc)<;>intro u)
|((with_reducible apply aa.bg)<;>intro u)
|(with_reducible apply aa.ap)
|((with_reducible apply aa.gf);(case hW=>exact rfl))
|((with_reducible apply aa.aD);(case hW=>exact rfl);(case hx=>exact ah))
|((with_reducible apply aa.u0);(case hx=>exact ah))
|fail)
 all_goals(refine aZ (.inr rfl) rfl ?_;first|(simp_all;done)|(simp_all;omega))
def Ps(R:Int)(x:List Int)(hl:x.length<=140737488351232):Cl ai 34 [.t (ax x),.t (.tp [.int .i64 R])] [] (.t (.bool (!(decide ((x.length:Int)=R)&&x.all lA)))) []:=by
 have y:=aQ x;have u:=Pm (C:=x) (p:=fun n=>!lA n) hl (fun n _=>Pr n);rw[zP]at u;obtain⟨b,v⟩:∃b,x.all lA=b:=⟨_,rfl⟩;rw[v]at u⊢;refine Cl.ao rfl Tryz.func34 rfl rfl rfl ?_
 repeat'(first
|(with_reducible apply ac.seq)
|((with_reducible apply ac.text);(try case hm=>exact rfl))
|(with_reducible apply ac.ret)
|((with_reducible apply aa.fP)<;>intro z)
|(with_reducible apply aa.ap)
|((with_reducible apply aa.gf);(case hW=>exact rfl))
|((with_reducible apply aa.aD);(case hW=>exact rfl);(case hx=>first
|(exact aq u)
|exact ah))
|((with_reducible apply aa.u0);(case hx=>exact ah))
|fail)
 all_goals(refine aZ (.inr rfl) rfl ?_;cases b <;>first|(simp_all;done)|(simp_all;omega))
def wc{p:Pln}(R:Int){l:List (List Int)}(hp:p.aw.length<=140737488351232)(hl:l.length<=140737488351232)(hx:∀x∈l,x.length<=140737488351232):Cl ai 13 [.t (ba p),.t (.int .i64 R),.t (.arr (aO l))] [] (.t (.bool (iD p R l))) []:=by
 have z:=jY l;have D:=py p.aw;have u:=Po (C:=l) (p:=fun x=>!(decide ((x.length:Int)=R)&&x.all lA)) (c1:=.tp [.int .i64 R]) hl (fun x h=>Ps R x (hx x h));rw[zP]at u;unfold iD;obtain⟨b,y⟩:∃b,(l.all fun x=>decide ((x.length:Int)=R)&&x.all lA)=b:=⟨_,rfl⟩;rw[y]at u⊢;unfold ba;rw[bX];refine Cl.ao rfl Tryz.func13 rfl rfl rfl ?_
 repeat'(first
|(with_reducible apply ac.seq)
|((with_reducible apply ac.text);(try case hm=>exact rfl))
|(with_reducible first|apply ac.skip|apply ac.ret|apply az|apply aV)
|((with_reducible apply ac.aA);(case hc=>exact rfl))
|((with_reducible apply ac.aH);(case hc=>exact rfl))
|((with_reducible apply aa.bc)<;>intro v)
|((with_reducible apply aa.bg)<;>intro v)
|((with_reducible apply aa.fg)<;>intro v)
|(with_reducible apply aa.ap)
|((with_reducible apply aa.gf);(case hW=>exact rfl))
|((with_reducible apply aa.aD);(case hW=>exact rfl);(case hx=>exact ah))
|((with_reducible apply aa.u0);(case hx=>first
|(exact aq u)
|exact ah))
|fail)
 all_goals(refine aZ (.inr rfl) rfl ?_;cases b <;>first|(simp_all;done)|(simp_all;omega))
def FB{l:List (List Int)}(hl:l.length<=140737488351232):Cl ai 36 [.t (.arr (aO l))] [] (.t (.int .i64 (jE l))) []:=by
 have v:=jY l;refine Cl.ao rfl Tryz.func36 rfl rfl rfl ?_
 cases l with
 |nil=>
  have u:([]:List (List Int)).length=0:=rfl;exact af
 |cons x l=>
  have y:=aQ x;have u:(x::l).length=l.length+1:=rfl;have z:(aO (x::l))[0]?=some [.arr (aG x)]:=rfl;exact af
def FC{m:Md}{p:Pln}(hm:bt m)(n:Int)(e:Ev)(he:e.past.length<=140737488351232)(hp:p.aw.length<=140737488351232):Cl ai 39 [.t (bz m),.t (ba p),.t (.int .i64 n),.t (cV e)] [] (.t (.bool (j3 m p n e))) []:=by
 have u:=EU hm n e he;have v:=zO e;have z:=py p.aw;unfold j3;obtain⟨b,y⟩:∃b,iV m n e=b:=⟨_,rfl⟩;obtain⟨t,D⟩:∃t,nh e=t:=⟨_,rfl⟩;rw[y]at u⊢;rw[D]at v⊢;unfold ba;unfold cV c9 at u v⊢;rw[aW]at u⊢;rw[bX];refine Cl.ao rfl Tryz.func39 rfl rfl rfl ?_
 cases b with
 |false=>
  exact af
 |true=>
  cases t with
  |false=>
   exact af
  |true=>
   exact af
def iE(x:List Int):Int:=x.foldl (fun s n=>IntKind.i64.wrap (s+n)) 0
def Pt{l:List (List Int)}(hl:l.length<=1000000)(hx:∀x∈l,x.length<=1000000):Cl ai 15 [.t (.arr (aO l))] [] (.t (.arr (aG (l.map iE)))) []:=by
 have J:=jY l;refine Cl.fO rfl Tryz.func15 rfl rfl rfl ?_;refine ar ?_;refine aC.cB (fun x:Nat×Bool×List Int=>[(3,.ls 0),(11,.t (.int .i64 (x.1:Int)))]) (fun x=>[.row false x.2.1 1 (aG x.2.2)]) (fun x=>x.1<=l.length/\x.2.2=(l.take x.1).map iE) (fun x=>l.length - x.1) (0,false,[]) rfl rfl ⟨by dsimp only;omega,rfl⟩ (fun x D=>?_);obtain⟨q,Z,O⟩:=x;dsimp only at D⊢;obtain⟨h1,h2⟩:=D;have G:O.length=q:=by rw[h2,List.length_map,List.length_take];omega
 rcases Nat.lt_or_ge q l.length with h3|h3
 ·
  obtain⟨x,v⟩:=am h3;have hc:(aO l)[q]?=some [.arr (aG x)]:=jv v;have U:=aQ x;have V:=hx x (List.mem_of_getElem? v);refine ar ?_;refine aC.ind (fun k:Nat=>[(6,.t (.int .i64 (iE (x.take k)))),(17,.t (.int .i64 (k:Int)))]) (fun k=>k<=x.length) (fun k=>x.length - k) 0 rfl (by omega) (fun k hk=>?_);rcases Nat.lt_or_ge k x.length with h4|h4
  ·
   obtain⟨n,hn⟩:=am h4;have I:=aU hn;have hs:iE (x.take (k+1))=IntKind.i64.wrap (iE (x.take k)+n):=by unfold iE;rw[List.take_add_one,List.foldl_append,hn];rfl
   repeat'(first
|(with_reducible first|apply ac.seq|apply ac.block)
|((with_reducible apply ac.text);(try case hm=>exact rfl))
|(with_reducible first|apply ac.skip|apply az)
|((with_reducible apply ac.aA);(case hc=>exact rfl))
|((with_reducible apply aa.aE);(case hp=>exact aj))
|(with_reducible first|apply aa.ap|apply aa.bj)
|((with_reducible apply aa.u0);(case hx=>first
|(exact ae.qX (m:=iE (x.take k)) (n:=n) rfl rfl)
|exact ah))
|fail)
   refine⟨k+1,?_,rfl,by omega,by omega⟩;rw[hs];rfl
  ·
   rw[List.take_of_length_le h4];obtain⟨s,hs⟩:∃s,iE x=s:=⟨_,rfl⟩;rw[hs];have y:ca ((aG O).length+1) 8=true:=by rw[aQ];exact KB (by omega)
   have z:aG O++[[.int .i64 s]]=aG (O++[s]):=by simp[aG]
   repeat'(first
|(with_reducible apply ac.seq)
|((with_reducible apply ac.text);(try case hm=>exact rfl))
|(with_reducible first|apply ac.exit|apply az|apply cR|apply cS)
|((with_reducible apply ac.aH);(case hc=>exact rfl))
|((with_reducible apply aa.bC);(case hp=>exact aj))
|(with_reducible first|apply aa.ap|apply aa.bj)
|((with_reducible apply aa.u);(case hx=>((with_reducible apply ae.eP);(case hs=>exact fun _=>rfl);(case ha|ht=>exact rfl);(case hr=>first|(with_reducible exact eH)|(with_reducible exact rw1)|(with_reducible exact eI)|(with_reducible exact rw3)|(with_reducible exact rw4)|exact rfl);(case hx|hy|hn|hb|hok=>exact rfl);(case hlen=>exact y);(case hv=>exact z);(case hk=>exact eQ);(case hf=>exact leq))))
|((with_reducible apply aa.u0);(case hx=>exact ah))
|fail)
   refine⟨(q+1,true,O++[s]),rfl,rfl,⟨by dsimp only;omega,?_⟩,by dsimp only;omega⟩;dsimp only;rw[List.take_add_one,List.map_append,v,<- h2,<- hs];rfl
 ·
  rw[List.take_of_length_le h3]at h2;rw[<- h2];exact af
end Go.Proofs.YtjolgbkkocjpgaaGreatDoor
