/- Law 39: what an event does to rights,as contracts. No condition. -/
import Derived.Test.YtjolgbkkocjpgaaGreatDoorTRC
import Derived.Test.YtjolgbkkocjpgaaGreatDoorTLX
set_option linter.all false
namespace Go.Proofs.YtjolgbkkocjpgaaGreatDoor
open Go.RowKit
set_option maxRecDepth 100000
set_option maxHeartbeats 32000000
theorem ve{N R:Nat}:∀{S:List cz} {z:List (List Int)},(∀s∈S,bW N R s)->bM N R z->bM N R (S.foldl aP z)
 |[],z,_,h=>h
 |s::S,z,u,h=>ve (S:=S) (z:=aP z s) (fun t v=>u t (by simp[v])) (lX h (u s (by simp)))
def I1{m:Md}{p:Pln}{e:Ev}{z0:List (List Int)}(h:lh m p e)(G:bM p.ao.length e.past.length z0):Cl ah 37 [.t (bk m),.t (aN p),.t (bN e),.fn (.func 49) 0 [.lp 0 0]] [.box false 38 [.lo 1 []],.own false (.arr (aF z0))] (.aJ []) [.box false 38 [.lo 1 []],.own false (.arr (aF ((du m p e).foldl aP z0)))]:=by
 obtain⟨er,en,et,P,K,u,gk,gi,ge,ga,D,pl,se⟩:=e;obtain⟨aV,ag,hr,Z,al,b1⟩:=h;dsimp only at ag hr Z al G;obtain⟨r,rfl⟩:=Int.eq_ofNat_of_zero_le hr.1;have V:r <P.length:=by omega
 have cg:=aO P;by_cases hK:K=0
 ·
  subst hK;have aB:=Z rfl;obtain⟨hv,⟨a8,bb⟩,b4,b5⟩:=kI.1 aB;have hk:bC m u=true:=eC.2 ⟨a8,bb⟩;have hS:du m p ⟨(r:Int),en,et,P,0,u,gk,gi,ge,ga,D,pl,se⟩=bn r (-1) (bO m p u P.length)++bn r 1 (aT m u (-1) 0 p.ao):=by unfold du;rw[if_pos rfl];rfl
  have kn:Cl ah 73 [.t (bk m),.t (aN p),.t (.int .i64 u),.t (.int .i64 (P.length:Int))] [] (.aJ [.ls 0,.t (.bool (eH p u))]) [.row false false 4 (ba (bO m p u P.length))]:=Av aV aB (by omega);have kg:=Ar aV hv hk (by omega);have hA:=fun x (hx:x∈bO m p u P.length)=>wC hv hk (R:=P.length) hx;have hB:=fun x (hx:x∈aT m u (-1) 0 p.ao)=>nw hv hk (.inr rfl) hx
  have bd:(bO m p u P.length).length<=2000:=by
   have h1:=rR m p u P.length;have:=(jR.1 hv).eN;omega
  have be:(aT m u (-1) 0 p.ao).length<=2000:=by
   have h1:=ou m u (-1) 0 p.ao;omega
  rw[hS,List.foldl_append];have bf:=fY (bO m p u P.length);have bi:=fY (aT m u (-1) 0 p.ao);generalize bO m p u P.length=A at hA bd kn bf⊢;generalize aT m u (-1) 0 p.ao=B at hB be kg bi⊢
  have I:∀s∈bn r (-1) A,bW p.ao.length P.length s:=fun s hs=>by
   unfold bn at hs;obtain⟨x,hx,rfl⟩:=List.mem_map.1 hs;rw[List.mem_filter,decide_eq_true_eq]at hx;obtain⟨j,h1,h2,h3,h4⟩:=hA x hx.1 hx.2;exact⟨by dsimp only;omega,V⟩
  have J:∀q,∀s∈bn r (-1) (A.take q),bW p.ao.length P.length s:=fun q s hs=>I s (uy hs);obtain⟨pb,bl⟩:∃b,eH p u=b:=⟨_,rfl⟩;rw[bl]at kn;unfold aN at kn kg⊢;unfold bN b8;rw[aS,bt]at kn kg⊢;dsimp only;refine Cl.aq rfl Tryz.func37 rfl rfl rfl ?_;refine ak ?_;refine ax.cA (fun x:Nat×(List (List Int))=>[(31,.t (.int .i64 (x.1:Int)))]) (fun x=>[.box false 38 [.lo 1 []],.own false (.arr (aF x.2)),.box false 30 (([ay m.ai,.arr (bq m.tables),.arr (bX m.bx),.arr (dc m.cons),.arr (dk m.ops),.arr (cK m.au),.arr (cu m.aG)]:List AV).map .t),.box false 35 (([.arr (eA p.ao),.arr (dO p.aD),.arr (cw p.places),ay p.bh]:List AV).map .t),.box false 57 (([.int .i64 (r:Int),.int .i64 en,.int .i64 et,ay P,.int .i64 0,.int .i64 u,.int .i64 gk,.int .i64 gi,.int .i64 ge,.int .i64 ga,.int .i64 D,.int .i64 pl,.int .i64 se]:List AV).map .t),.row false false 4 (ba A)]) (fun x=>x.1<=A.length/\x.2=(bn r (-1) (A.take x.1)).foldl aP z0) (fun x=>A.length - x.1) (0,z0) rfl rfl ⟨by dsimp only;omega,rfl⟩ (fun x hq=>?_);obtain⟨q,z⟩:=x;dsimp only at hq⊢;obtain⟨h1,h2⟩:=hq;rcases Nat.lt_or_ge q A.length with h3|h3
  ·
   obtain⟨x,hx⟩:=aj h3;have hc:=kX hx;have v:=o9 (r:=r) (sg := -1) hx;have U:=List.mem_of_getElem? hx;have an:bM p.ao.length P.length z:=by rw[h2];exact ve (J q) G
   obtain⟨xk,xi,xe,xn⟩:=x;dsimp only at hc v;by_cases a1:xk=0
   ·
    subst a1;obtain⟨j,hj,av,ab,ad⟩:=hA _ U rfl;dsimp only at av ab ad;subst av;rw[if_pos rfl]at v;have hs:bW p.ao.length P.length ⟨j,r,0 - xn⟩:=⟨hj,V⟩;have kc:=wJ (s:=⟨j,r,0 - xn⟩) an hs;dsimp only at kc
    repeat'(first
|((with_reducible apply aa.aR);(case hp=>exact aA))
|(refine ar ?_)
|((with_reducible apply aa.u0);(case hx=>first
|((with_reducible apply ac.fZ);(case hx=>exact rfl);(case h=>omega))
|(exact kZ [0,1] kc)
|exact af))
|fail)
    refine⟨(q+1,aP z ⟨j,r,0 - xn⟩),rfl,rfl,⟨by dsimp only;omega,?_⟩,by dsimp only;omega⟩;dsimp only;rw[v,List.foldl_append,<- h2];simp
   ·
    rw[if_neg a1,List.append_nil]at v;refine ak ?_;refine⟨(q+1,z),rfl,rfl,⟨by dsimp only;omega,?_⟩,by dsimp only;omega⟩;dsimp only;rw[v];exact h2
  ·
   rw[List.take_of_length_le h3]at h2;rw[<- h2];have an:bM p.ao.length P.length z:=by rw[h2];exact ve I G
   clear h2 kn hA I J G;refine ak ?_;refine ax.cA (fun x:Nat×(List (List Int))=>[(56,.t (.int .i64 (x.1:Int)))]) (fun x=>[.box false 38 [.lo 1 []],.own false (.arr (aF x.2)),.box false 30 (([ay m.ai,.arr (bq m.tables),.arr (bX m.bx),.arr (dc m.cons),.arr (dk m.ops),.arr (cK m.au),.arr (cu m.aG)]:List AV).map .t),.box false 35 (([.arr (eA p.ao),.arr (dO p.aD),.arr (cw p.places),ay p.bh]:List AV).map .t),.box false 57 (([.int .i64 (r:Int),.int .i64 en,.int .i64 et,ay P,.int .i64 0,.int .i64 u,.int .i64 gk,.int .i64 gi,.int .i64 ge,.int .i64 ga,.int .i64 D,.int .i64 pl,.int .i64 se]:List AV).map .t),.row false false 4 (ba A),.row false false 4 (ba B)]) (fun x=>x.1<=B.length/\x.2=(bn r (1) (B.take x.1)).foldl aP z) (fun x=>B.length - x.1) (0,z) rfl rfl ⟨by dsimp only;omega,rfl⟩ (fun x hq=>?_);obtain⟨q,y⟩:=x;dsimp only at hq⊢;obtain⟨h1,h2⟩:=hq;rcases Nat.lt_or_ge q B.length with h3|h3
   ·
    obtain⟨x,hx⟩:=aj h3;have hc:=kX hx;have v:=o9 (r:=r) (sg:=1) hx;have U:=List.mem_of_getElem? hx;obtain⟨j,hj,bT,ab,ad⟩:=hB x U;obtain⟨xk,xi,xe,xn⟩:=x;injection bT with e1 e2 e3 e4
    subst e1 e2 e3;dsimp only at hc v ab ad;rw[if_pos rfl]at v
    have bU:bM p.ao.length P.length y:=by
     rw[h2];refine ve (fun s hs=>?_) an;unfold bn at hs;obtain⟨x,hx,rfl⟩:=List.mem_map.1 hs;rw[List.mem_filter]at hx;obtain⟨j',cf,bz,_⟩:=hB x (List.mem_of_mem_take hx.1);rw[bz];exact⟨by dsimp only;omega,V⟩
    have hs:bW p.ao.length P.length ⟨j,r,xn⟩:=⟨hj,V⟩;have kc:=wJ (s:=⟨j,r,xn⟩) bU hs;dsimp only at kc
    repeat'(first
|((with_reducible apply aa.aR);(case hp=>exact aA))
|(refine ar ?_)
|((with_reducible apply aa.u0);(case hx=>first
|(exact kZ [0,1] kc)
|exact af))
|fail)
    refine⟨(q+1,aP y ⟨j,r,xn⟩),rfl,rfl,⟨by dsimp only;omega,?_⟩,by dsimp only;omega⟩;dsimp only;rw[v,List.foldl_append,<- h2];simp
   ·
    rw[List.take_of_length_le h3]at h2;rw[<- h2];refine ak ?_;exact⟨.inl rfl,rfl⟩
 ·
  have kt:=Bz ⟨(r:Int),en,et,P,K,u,gk,gi,ge,ga,D,pl,se⟩;obtain⟨b,hb⟩:∃b,fq ⟨(r:Int),en,et,P,K,u,gk,gi,ge,ga,D,pl,se⟩=b:=⟨_,rfl⟩;rw[hb]at kt al;unfold du;rw[if_neg (show¬(Ev.k ⟨(r:Int),en,et,P,K,u,gk,gi,ge,ga,D,pl,se⟩)=0 from hK),hb];unfold aN;unfold bN b8 at kt⊢;rw[aS,bt];dsimp only at kt⊢;refine Cl.aq rfl Tryz.func37 rfl rfl rfl ?_
  cases b with
  |true=>
   obtain⟨⟨a6,cc⟩,⟨bw,ch⟩,b2,b3⟩:=al rfl;obtain⟨g,rfl⟩:=Int.eq_ofNat_of_zero_le a6;obtain⟨t,rfl⟩:=Int.eq_ofNat_of_zero_le bw;have aX:bW p.ao.length P.length ⟨g,r,0 - ga⟩:=⟨by show g <_;omega,V⟩;have bm:bW p.ao.length P.length ⟨g,t,ga⟩:=⟨by show g <_;omega,by show t <_;omega⟩;have k1:=wJ (s:=⟨g,r,0 - ga⟩) G aX;have b0:bM p.ao.length P.length (aP z0 ⟨g,r,0 - ga⟩):=lX G aX;have k2:=wJ (s:=⟨g,t,ga⟩) b0 bm;rw[if_pos rfl];simp only[Int.toNat_natCast,List.foldl_cons,List.foldl_nil];dsimp only at k1 k2
   repeat'(first
|((with_reducible apply aa.cQ);(case hp=>exact aA))
|(refine ar ?_)
|((with_reducible apply aa.u0);(case hx=>first
|((with_reducible apply ac.fZ);(case hx=>exact rfl);(case h=>omega))
|(exact ap kt)
|(exact kZ [0,1] k1)
|(exact kZ [0,1] k2)
|exact af))
|fail)
   exact⟨.inl rfl,rfl⟩
  |false=>
   rw[if_neg (by decide)];refine ak ?_;exact⟨.inl rfl,rfl⟩
theorem vd{N R:Nat}:∀{S:List cz} {z:List (List Int)×Int},(∀s∈S,bW N R s)->bM N R z.1->bM N R (S.foldl bL z).1
 |[],z,_,h=>h
 |s::S,z,u,h=>vd (S:=S) (z:=bL z s) (fun t v=>u t (by simp[v])) (lX h (u s (by simp)))
def IZ{m:Md}{p:Pln}{e:Ev}{z0:List (List Int)×Int}(h:lh m p e)(G:bM p.ao.length e.past.length z0.1):Cl ah 37 [.t (bk m),.t (aN p),.t (bN e),.fn (.func 41) 0 [.lp 0 0,.lp 1 0]] [.box false 38 [.lo 2 []],.box false 39 [.t (.int .i64 z0.2)],.own false (.arr (aF z0.1))] (.aJ []) [.box false 38 [.lo 2 []],.box false 39 [.t (.int .i64 ((du m p e).foldl bL z0).2)],.own false (.arr (aF ((du m p e).foldl bL z0).1))]:=by
 obtain⟨er,en,et,P,K,u,gk,gi,ge,ga,D,pl,se⟩:=e;obtain⟨aV,ag,hr,Z,al,b1⟩:=h;dsimp only at ag hr Z al G;obtain⟨r,rfl⟩:=Int.eq_ofNat_of_zero_le hr.1;have V:r <P.length:=by omega
 have cg:=aO P;by_cases hK:K=0
 ·
  subst hK;have aB:=Z rfl;obtain⟨hv,⟨a8,bb⟩,b4,b5⟩:=kI.1 aB;have hk:bC m u=true:=eC.2 ⟨a8,bb⟩;have hS:du m p ⟨(r:Int),en,et,P,0,u,gk,gi,ge,ga,D,pl,se⟩=bn r (-1) (bO m p u P.length)++bn r 1 (aT m u (-1) 0 p.ao):=by unfold du;rw[if_pos rfl];rfl
  have kn:Cl ah 73 [.t (bk m),.t (aN p),.t (.int .i64 u),.t (.int .i64 (P.length:Int))] [] (.aJ [.ls 0,.t (.bool (eH p u))]) [.row false false 4 (ba (bO m p u P.length))]:=Av aV aB (by omega);have kg:=Ar aV hv hk (by omega);have hA:=fun x (hx:x∈bO m p u P.length)=>wC hv hk (R:=P.length) hx;have hB:=fun x (hx:x∈aT m u (-1) 0 p.ao)=>nw hv hk (.inr rfl) hx
  have bd:(bO m p u P.length).length<=2000:=by
   have h1:=rR m p u P.length;have:=(jR.1 hv).eN;omega
  have be:(aT m u (-1) 0 p.ao).length<=2000:=by
   have h1:=ou m u (-1) 0 p.ao;omega
  rw[hS,List.foldl_append];have bf:=fY (bO m p u P.length);have bi:=fY (aT m u (-1) 0 p.ao);generalize bO m p u P.length=A at hA bd kn bf⊢;generalize aT m u (-1) 0 p.ao=B at hB be kg bi⊢
  have I:∀s∈bn r (-1) A,bW p.ao.length P.length s:=fun s hs=>by
   unfold bn at hs;obtain⟨x,hx,rfl⟩:=List.mem_map.1 hs;rw[List.mem_filter,decide_eq_true_eq]at hx;obtain⟨j,h1,h2,h3,h4⟩:=hA x hx.1 hx.2;exact⟨by dsimp only;omega,V⟩
  have J:∀q,∀s∈bn r (-1) (A.take q),bW p.ao.length P.length s:=fun q s hs=>I s (uy hs);obtain⟨pb,bl⟩:∃b,eH p u=b:=⟨_,rfl⟩;rw[bl]at kn;unfold aN at kn kg⊢;unfold bN b8;rw[aS,bt]at kn kg⊢;dsimp only;refine Cl.aq rfl Tryz.func37 rfl rfl rfl ?_;refine ak ?_;refine ax.cA (fun x:Nat×(List (List Int)×Int)=>[(31,.t (.int .i64 (x.1:Int)))]) (fun x=>[.box false 38 [.lo 2 []],.box false 39 [.t (.int .i64 x.2.2)],.own false (.arr (aF x.2.1)),.box false 30 (([ay m.ai,.arr (bq m.tables),.arr (bX m.bx),.arr (dc m.cons),.arr (dk m.ops),.arr (cK m.au),.arr (cu m.aG)]:List AV).map .t),.box false 35 (([.arr (eA p.ao),.arr (dO p.aD),.arr (cw p.places),ay p.bh]:List AV).map .t),.box false 57 (([.int .i64 (r:Int),.int .i64 en,.int .i64 et,ay P,.int .i64 0,.int .i64 u,.int .i64 gk,.int .i64 gi,.int .i64 ge,.int .i64 ga,.int .i64 D,.int .i64 pl,.int .i64 se]:List AV).map .t),.row false false 4 (ba A)]) (fun x=>x.1<=A.length/\x.2=(bn r (-1) (A.take x.1)).foldl bL z0) (fun x=>A.length - x.1) (0,z0) rfl rfl ⟨by dsimp only;omega,rfl⟩ (fun x hq=>?_);obtain⟨q,z⟩:=x;dsimp only at hq⊢;obtain⟨h1,h2⟩:=hq;rcases Nat.lt_or_ge q A.length with h3|h3
  ·
   obtain⟨x,hx⟩:=aj h3;have hc:=kX hx;have v:=o9 (r:=r) (sg := -1) hx;have U:=List.mem_of_getElem? hx;have an:bM p.ao.length P.length z.1:=by rw[h2];exact vd (J q) G
   obtain⟨xk,xi,xe,xn⟩:=x;dsimp only at hc v;by_cases a1:xk=0
   ·
    subst a1;obtain⟨j,hj,av,ab,ad⟩:=hA _ U rfl;dsimp only at av ab ad;subst av;rw[if_pos rfl]at v;have hs:bW p.ao.length P.length ⟨j,r,0 - xn⟩:=⟨hj,V⟩;have kc:=u5 (s:=⟨j,r,0 - xn⟩) (c:=z.2) an hs;dsimp only at kc
    repeat'(first
|((with_reducible apply aa.aR);(case hp=>exact aA))
|(refine ar ?_)
|((with_reducible apply aa.u0);(case hx=>first
|((with_reducible apply ac.fZ);(case hx=>exact rfl);(case h=>omega))
|(exact kZ [0,1,2] kc)
|exact af))
|fail)
    refine⟨(q+1,bL z ⟨j,r,0 - xn⟩),rfl,rfl,⟨by dsimp only;omega,?_⟩,by dsimp only;omega⟩;dsimp only;rw[v,List.foldl_append,<- h2];simp
   ·
    rw[if_neg a1,List.append_nil]at v;refine ak ?_;refine⟨(q+1,z),rfl,rfl,⟨by dsimp only;omega,?_⟩,by dsimp only;omega⟩;dsimp only;rw[v];exact h2
  ·
   rw[List.take_of_length_le h3]at h2;rw[<- h2];have an:bM p.ao.length P.length z.1:=by rw[h2];exact vd I G
   clear h2 kn hA I J G;refine ak ?_;refine ax.cA (fun x:Nat×(List (List Int)×Int)=>[(56,.t (.int .i64 (x.1:Int)))]) (fun x=>[.box false 38 [.lo 2 []],.box false 39 [.t (.int .i64 x.2.2)],.own false (.arr (aF x.2.1)),.box false 30 (([ay m.ai,.arr (bq m.tables),.arr (bX m.bx),.arr (dc m.cons),.arr (dk m.ops),.arr (cK m.au),.arr (cu m.aG)]:List AV).map .t),.box false 35 (([.arr (eA p.ao),.arr (dO p.aD),.arr (cw p.places),ay p.bh]:List AV).map .t),.box false 57 (([.int .i64 (r:Int),.int .i64 en,.int .i64 et,ay P,.int .i64 0,.int .i64 u,.int .i64 gk,.int .i64 gi,.int .i64 ge,.int .i64 ga,.int .i64 D,.int .i64 pl,.int .i64 se]:List AV).map .t),.row false false 4 (ba A),.row false false 4 (ba B)]) (fun x=>x.1<=B.length/\x.2=(bn r (1) (B.take x.1)).foldl bL z) (fun x=>B.length - x.1) (0,z) rfl rfl ⟨by dsimp only;omega,rfl⟩ (fun x hq=>?_);obtain⟨q,y⟩:=x;dsimp only at hq⊢;obtain⟨h1,h2⟩:=hq;rcases Nat.lt_or_ge q B.length with h3|h3
   ·
    obtain⟨x,hx⟩:=aj h3;have hc:=kX hx;have v:=o9 (r:=r) (sg:=1) hx;have U:=List.mem_of_getElem? hx;obtain⟨j,hj,bT,ab,ad⟩:=hB x U;obtain⟨xk,xi,xe,xn⟩:=x;injection bT with e1 e2 e3 e4
    subst e1 e2 e3;dsimp only at hc v ab ad;rw[if_pos rfl]at v
    have bU:bM p.ao.length P.length y.1:=by
     rw[h2];refine vd (fun s hs=>?_) an;unfold bn at hs;obtain⟨x,hx,rfl⟩:=List.mem_map.1 hs;rw[List.mem_filter]at hx;obtain⟨j',cf,bz,_⟩:=hB x (List.mem_of_mem_take hx.1);rw[bz];exact⟨by dsimp only;omega,V⟩
    have hs:bW p.ao.length P.length ⟨j,r,xn⟩:=⟨hj,V⟩;have kc:=u5 (s:=⟨j,r,xn⟩) (c:=y.2) bU hs;dsimp only at kc
    repeat'(first
|((with_reducible apply aa.aR);(case hp=>exact aA))
|(refine ar ?_)
|((with_reducible apply aa.u0);(case hx=>first
|(exact kZ [0,1,2] kc)
|exact af))
|fail)
    refine⟨(q+1,bL y ⟨j,r,xn⟩),rfl,rfl,⟨by dsimp only;omega,?_⟩,by dsimp only;omega⟩;dsimp only;rw[v,List.foldl_append,<- h2];simp
   ·
    rw[List.take_of_length_le h3]at h2;rw[<- h2];refine ak ?_;exact⟨.inl rfl,rfl⟩
 ·
  have kt:=Bz ⟨(r:Int),en,et,P,K,u,gk,gi,ge,ga,D,pl,se⟩;obtain⟨b,hb⟩:∃b,fq ⟨(r:Int),en,et,P,K,u,gk,gi,ge,ga,D,pl,se⟩=b:=⟨_,rfl⟩;rw[hb]at kt al;unfold du;rw[if_neg (show¬(Ev.k ⟨(r:Int),en,et,P,K,u,gk,gi,ge,ga,D,pl,se⟩)=0 from hK),hb];unfold aN;unfold bN b8 at kt⊢;rw[aS,bt];dsimp only at kt⊢;refine Cl.aq rfl Tryz.func37 rfl rfl rfl ?_
  cases b with
  |true=>
   obtain⟨⟨a6,cc⟩,⟨bw,ch⟩,b2,b3⟩:=al rfl;obtain⟨g,rfl⟩:=Int.eq_ofNat_of_zero_le a6;obtain⟨t,rfl⟩:=Int.eq_ofNat_of_zero_le bw;have aX:bW p.ao.length P.length ⟨g,r,0 - ga⟩:=⟨by show g <_;omega,V⟩;have bm:bW p.ao.length P.length ⟨g,t,ga⟩:=⟨by show g <_;omega,by show t <_;omega⟩;have k1:=u5 (s:=⟨g,r,0 - ga⟩) (c:=z0.2) G aX;have b0:bM p.ao.length P.length (bL z0 ⟨g,r,0 - ga⟩).1:=lX G aX;have k2:=u5 (s:=⟨g,t,ga⟩) (c:=(bL z0 ⟨g,r,0 - ga⟩).2) b0 bm;rw[if_pos rfl];simp only[Int.toNat_natCast,List.foldl_cons,List.foldl_nil];dsimp only at k1 k2
   repeat'(first
|((with_reducible apply aa.cQ);(case hp=>exact aA))
|(refine ar ?_)
|((with_reducible apply aa.u0);(case hx=>first
|((with_reducible apply ac.fZ);(case hx=>exact rfl);(case h=>omega))
|(exact ap kt)
|(exact kZ [0,1,2] k1)
|(exact kZ [0,1,2] k2)
|exact af))
|fail)
   exact⟨.inl rfl,rfl⟩
  |false=>
   rw[if_neg (by decide)];refine ak ?_;exact⟨.inl rfl,rfl⟩
set_option maxHeartbeats 16000000
def Ll{C:List Int}{p:Int->Bool}(hl:C.length<=140737488351232)(hp:∀x∈C,Cl ah 70 [.t (.int .i64 x)] [] (.t (.bool (p x))) []):Cl ah 32 [.t (ay C),.t (.fn (.func 70) 0 [])] [] (.t (.int .i64 (bj p C 0))) []:=by
 have z:=aO C;refine Cl.aq rfl Tryz.func32 rfl rfl rfl ?_;refine ak ?_;refine ax.ind (fun q:Nat=>[(8,.t (.int .i64 (q:Int)))]) (fun q=>q<=C.length/\bj p C 0=bj p (C.drop q) q) (fun q=>C.length - q) 0 rfl (by simp) (fun q D=>?_);obtain⟨h1,h2⟩:=D;rw[h2];rcases Nat.lt_or_ge q C.length with h3|h3
 ·
  obtain⟨e,u⟩:=aj h3;have G:=aW u;have v:=hp e (List.mem_of_getElem? u);rw[drop_at u,iK];obtain⟨b,y⟩:∃b,p e=b:=⟨_,rfl⟩;rw[y]at v⊢
  cases b with
  |true=>
   exact ae
  |false=>
   exact ae
 ·
  rw[List.drop_of_length_le h3];exact ae
def Jt{C:List Int}{p:Int->Bool}(hl:C.length<=140737488351232)(hp:∀x∈C,Cl ah 70 [.t (.int .i64 x)] [] (.t (.bool (p x))) []):Cl ah 11 [.t (ay C),.t (.fn (.func 70) 0 [])] [] (.t (.bool (C.any p))) []:=by
 have u:=Ll hl hp;rw[<- ik p C 0 (by omega)];refine Cl.aq rfl Tryz.func11 rfl rfl rfl ?_;obtain⟨n,v⟩:∃n,bj p C 0=n:=⟨_,rfl⟩;rw[v]at u⊢;exact ae
def Lm{C:List Int}{p:Int->Bool}(hl:C.length<=140737488351232)(hp:∀x∈C,Cl ah 35 [.t (.int .i64 x)] [] (.t (.bool (p x))) []):Cl ah 32 [.t (ay C),.t (.fn (.func 35) 0 [])] [] (.t (.int .i64 (bj p C 0))) []:=by
 have z:=aO C;refine Cl.aq rfl Tryz.func32 rfl rfl rfl ?_;refine ak ?_;refine ax.ind (fun q:Nat=>[(8,.t (.int .i64 (q:Int)))]) (fun q=>q<=C.length/\bj p C 0=bj p (C.drop q) q) (fun q=>C.length - q) 0 rfl (by simp) (fun q D=>?_);obtain⟨h1,h2⟩:=D;rw[h2];rcases Nat.lt_or_ge q C.length with h3|h3
 ·
  obtain⟨e,u⟩:=aj h3;have G:=aW u;have v:=hp e (List.mem_of_getElem? u);rw[drop_at u,iK];obtain⟨b,y⟩:∃b,p e=b:=⟨_,rfl⟩;rw[y]at v⊢
  cases b with
  |true=>
   exact ae
  |false=>
   exact ae
 ·
  rw[List.drop_of_length_le h3];exact ae
def Ju{C:List Int}{p:Int->Bool}(hl:C.length<=140737488351232)(hp:∀x∈C,Cl ah 35 [.t (.int .i64 x)] [] (.t (.bool (p x))) []):Cl ah 11 [.t (ay C),.t (.fn (.func 35) 0 [])] [] (.t (.bool (C.any p))) []:=by
 have u:=Lm hl hp;rw[<- ik p C 0 (by omega)];refine Cl.aq rfl Tryz.func11 rfl rfl rfl ?_;obtain⟨n,v⟩:∃n,bj p C 0=n:=⟨_,rfl⟩;rw[v]at u⊢;exact ae
def Ln{C:List (List Int)}{p:(List Int)->Bool}{c1:AV}(hl:C.length<=140737488351232)(hp:∀x∈C,Cl ah 34 [.t (ay x),.t c1] [] (.t (.bool (p x))) []):Cl ah 72 [.t (.arr (aF C)),.t (.fn (.func 34) 0 [c1])] [] (.t (.int .i64 (bj p C 0))) []:=by
 have z:=ic C;refine Cl.aq rfl Tryz.func72 rfl rfl rfl ?_;refine ak ?_;refine ax.ind (fun q:Nat=>[(8,.t (.int .i64 (q:Int)))]) (fun q=>q<=C.length/\bj p C 0=bj p (C.drop q) q) (fun q=>C.length - q) 0 rfl (by simp) (fun q D=>?_);obtain⟨h1,h2⟩:=D;rw[h2];rcases Nat.lt_or_ge q C.length with h3|h3
 ·
  obtain⟨e,u⟩:=aj h3;have G:=iG u;have v:=hp e (List.mem_of_getElem? u);rw[drop_at u,iK];obtain⟨b,y⟩:∃b,p e=b:=⟨_,rfl⟩;rw[y]at v⊢
  cases b with
  |true=>
   exact ae
  |false=>
   exact ae
 ·
  rw[List.drop_of_length_le h3];exact ae
def Jv{C:List (List Int)}{p:(List Int)->Bool}{c1:AV}(hl:C.length<=140737488351232)(hp:∀x∈C,Cl ah 34 [.t (ay x),.t c1] [] (.t (.bool (p x))) []):Cl ah 33 [.t (.arr (aF C)),.t (.fn (.func 34) 0 [c1])] [] (.t (.bool (C.any p))) []:=by
 have u:=Ln hl hp;rw[<- ik p C 0 (by omega)];refine Cl.aq rfl Tryz.func33 rfl rfl rfl ?_;obtain⟨n,v⟩:∃n,bj p C 0=n:=⟨_,rfl⟩;rw[v]at u⊢;exact ae
theorem EU{α:Type}(p:α->Bool):∀l:List α,(!l.any fun x=>!p x)=l.all p
 |[]=>rfl
 |x::l=>by rw[List.any_cons,List.all_cons,Bool.not_or,EU p l,Bool.not_not]
def yp{α:Type}(p:α->Bool)(l:List α):(l.any fun x=>!p x)=!l.all p:=by rw[<- EU,Bool.not_not]
def PI(n:Int):Cl ah 35 [.t (.int .i64 n)] [] (.t (.bool (!gQ n))) []:=by
 refine Cl.aq rfl Tryz.func35 rfl rfl rfl ?_;unfold gQ
 repeat'(first
|((with_reducible apply aa.aX)<;>intro u)
|((with_reducible apply aa.bi)<;>intro u)
|(refine ar ?_)
|((with_reducible apply aa.aB);(case hW=>exact rfl);(case hx=>exact af))
|((with_reducible apply aa.u0);(case hx=>exact af))
|fail)
 all_goals(refine a_ (.inr rfl) rfl ?_;first|(simp_all;done)|(simp_all;omega))
def PJ(R:Int)(x:List Int)(hl:x.length<=140737488351232):Cl ah 34 [.t (ay x),.t (.tp [.int .i64 R])] [] (.t (.bool (!(decide ((x.length:Int)=R)&&x.all gQ)))) []:=by
 have y:=aO x;have u:=Ju (C:=x) (p:=fun n=>!gQ n) hl (fun n _=>PI n);rw[yp]at u;obtain⟨b,v⟩:∃b,x.all gQ=b:=⟨_,rfl⟩;rw[v]at u⊢;refine Cl.aq rfl Tryz.func34 rfl rfl rfl ?_
 repeat'(first
|((with_reducible apply aa.gm)<;>intro z)
|(refine ar ?_)
|((with_reducible apply aa.aB);(case hW=>exact rfl);(case hx=>first
|(exact ap u)
|exact af))
|((with_reducible apply aa.u0);(case hx=>exact af))
|fail)
 all_goals(refine a_ (.inr rfl) rfl ?_;cases b <;>first|(simp_all;done)|(simp_all;omega))
def AO{p:Pln}(R:Int){l:List (List Int)}(hp:p.ao.length<=140737488351232)(hl:l.length<=140737488351232)(hx:∀x∈l,x.length<=140737488351232):Cl ah 13 [.t (aN p),.t (.int .i64 R),.t (.arr (aF l))] [] (.t (.bool (eI p R l))) []:=by
 have z:=ic l;have D:=kE p.ao;have u:=Jv (C:=l) (p:=fun x=>!(decide ((x.length:Int)=R)&&x.all gQ)) (c1:=.tp [.int .i64 R]) hl (fun x h=>PJ R x (hx x h));rw[yp]at u;unfold eI;obtain⟨b,y⟩:∃b,(l.all fun x=>decide ((x.length:Int)=R)&&x.all gQ)=b:=⟨_,rfl⟩;rw[y]at u⊢;unfold aN;rw[bt];refine Cl.aq rfl Tryz.func13 rfl rfl rfl ?_
 repeat'(first
|((with_reducible apply aa.aX)<;>intro v)
|((with_reducible apply aa.bi)<;>intro v)
|((with_reducible apply aa.fj)<;>intro v)
|(refine ar ?_)
|((with_reducible apply aa.aB);(case hW=>exact rfl);(case hx=>exact af))
|((with_reducible apply aa.u0);(case hx=>first
|(exact ap u)
|exact af))
|fail)
 all_goals(refine a_ (.inr rfl) rfl ?_;cases b <;>first|(simp_all;done)|(simp_all;omega))
def CI{l:List (List Int)}(hl:l.length<=140737488351232):Cl ah 36 [.t (.arr (aF l))] [] (.t (.int .i64 (eM l))) []:=by
 have v:=ic l;refine Cl.aq rfl Tryz.func36 rfl rfl rfl ?_
 cases l with
 |nil=>
  have u:([]:List (List Int)).length=0:=rfl;exact ae
 |cons x l=>
  have y:=aO x;have u:(x::l).length=l.length+1:=rfl;have z:(aF (x::l))[0]?=some [.arr (aE x)]:=rfl;exact ae
def DU{m:Md}{p:Pln}(hm:bo m)(n:Int)(e:Ev)(he:e.past.length<=140737488351232)(hp:p.ao.length<=140737488351232):Cl ah 39 [.t (bk m),.t (aN p),.t (.int .i64 n),.t (bN e)] [] (.t (.bool (fC m p n e))) []:=by
 have u:=C6 hm n e he;have v:=Bz e;have z:=kE p.ao;unfold fC;obtain⟨b,y⟩:∃b,fu m n e=b:=⟨_,rfl⟩;obtain⟨t,D⟩:∃t,fq e=t:=⟨_,rfl⟩;rw[y]at u⊢;rw[D]at v⊢;unfold aN;unfold bN b8 at u v⊢;rw[aS]at u⊢;rw[bt];refine Cl.aq rfl Tryz.func39 rfl rfl rfl ?_
 cases b with
 |false=>
  exact ae
 |true=>
  cases t with
  |false=>
   exact ae
  |true=>
   exact ae
end Go.Proofs.YtjolgbkkocjpgaaGreatDoor
