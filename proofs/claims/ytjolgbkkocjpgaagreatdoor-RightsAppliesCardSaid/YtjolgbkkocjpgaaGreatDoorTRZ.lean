/- Law 39: the reference's Missing,as a contract that tells. No condition. -/
import Derived.Test.YtjolgbkkocjpgaaGreatDoorTRU
set_option linter.all false
namespace Go.Proofs.YtjolgbkkocjpgaaGreatDoor
open Go.RowKit
set_option maxRecDepth 100000
set_option maxHeartbeats 32000000
def mQ(l:List (List Int))(r:Nat)(A:List bE):List bE:=A.flatMap fun x=>if 0 <x.n - bZ l ⟨x.i.toNat,r,0⟩then[⟨x.k,x.i,x.el,x.n - bZ l ⟨x.i.toNat,r,0⟩⟩]else[]
def M_{l:List (List Int)}{r q:Nat}{A:List bE}{x:bE}(h:A[q]?=some x):mQ l r (A.take (q+1))=mQ l r (A.take q)++if 0 <x.n - bZ l ⟨x.i.toNat,r,0⟩then[⟨x.k,x.i,x.el,x.n - bZ l ⟨x.i.toNat,r,0⟩⟩]else[]:=by
 unfold mQ;rw[List.take_add_one,List.flatMap_append,h];simp
theorem EB(l:List (List Int))(r:Nat):∀A:List bE,(mQ l r A).length<=A.length
 |[]=>Nat.le_refl _
 |x::A=>by
  have u:=EB l r A;unfold mQ at u⊢;rw[List.flatMap_cons,List.length_append,List.length_cons];split
  ·simp only[List.length_singleton];omega
  ·simp only[List.length_nil];omega
theorem Ey{l:List (List Int)}{r:Nat}:∀{A:List bE},(∀x∈A,∃j:Nat,x=⟨0,(j:Int),0,x.n⟩/\0 <x.n)->fX l (bn r (-1) A)=mQ l r A
 |[],_=>rfl
 |x::A,h=>by
  have v:=Ey (l:=l) (r:=r) (A:=A) (fun y J=>h y (by simp[J]));obtain⟨j,u,U⟩:=h x (by simp)
  have h1:bn r (-1) (x::A)=⟨j,r,0 - x.n⟩::bn r (-1) A:=by
   have I:x.k=0:=by rw[u]
   have G:x.i=(j:Int):=by rw[u]
   unfold bn;rw[List.filter_cons,if_pos (by simpa using I),List.map_cons,G,show(-1:Int)*x.n=0 - x.n by omega];rfl
  rw[h1];unfold fX at v⊢;unfold mQ at v⊢;rw[List.flatMap_cons,List.flatMap_cons,v];congr 1;rw[u];unfold rN;dsimp only;rw[show((j:Int)).toNat=j from rfl];have D:bZ l ⟨j,r,0 - x.n⟩=bZ l ⟨j,r,0⟩:=rfl;rw[D];generalize bZ l ⟨j,r,0⟩=g;by_cases z:0 <x.n - g
  ·rw[if_pos ⟨by omega,by omega⟩,if_pos z,show 0 - (0 - x.n) - g=x.n - g by omega]
  ·rw[if_neg (by omega),if_neg z]
def M2{l:List (List Int)}{r:Nat}{A:List bE}(h:∀x∈A,0 <x.n):fX l (bn r 1 A)=[]:=by
 unfold fX;rw[List.flatMap_eq_nil_iff];intro s hs;unfold bn at hs;obtain⟨x,u,rfl⟩:=List.mem_map.1 hs;have:=h x (List.mem_filter.1 u).1;unfold rN;dsimp only;rw[if_neg (by omega)]
def O4{m:Md}{p:Pln}{l:List (List Int)}{r a:Int}(h:PW m p)(hX:mj m)(hf:p.ao.length<=1000)(hl:l.length<=1000000)(hx:∀x∈l,x.length<=1000000):Cl ah 22 [.t (bk m),.t (aN p),.t (.arr (aF l)),.t (.int .i64 r),.t (.int .i64 a)] [] (.t (.aJ [.arr (ba (lM m p l r a).1),.int .i64 (lM m p l r a).2])) []:=by
 have z:=ut h;have D:=yc (p:=p) (eM l) (l:=l) (by omega) (by omega) (fun x hm=>by have:=hx x hm;omega);have kn:=FG (l:=l) (by omega) (fun x hm=>by have:=hx x hm;omega);have bz:=ic l;have bf:(cK m.au).length=m.au.length:=List.length_map _;unfold lM
 cases hv:cX m p with
 |false=>
  rw[hv]at z;rw[if_neg (by simp)];unfold aN at z D⊢;rw[aS]at z⊢;rw[bt]at z D⊢;refine Cl.cL rfl Tryz.func22 rfl rfl rfl ?_;exact ae
 |true=>
  rw[hv]at z
  cases hr:eI p (eM l) l with
  |false=>
   rw[hr]at D;rw[if_neg (by simp)];unfold aN at z D⊢;rw[aS]at z⊢;rw[bt]at z D⊢;refine Cl.cL rfl Tryz.func22 rfl rfl rfl ?_;exact ae
  |true=>
   rw[hr]at D;rw[if_pos ⟨rfl,rfl⟩];obtain⟨N,hN⟩:=Int.eq_ofNat_of_zero_le (show 0<=eM l by cases l <;>simp[eM]);rw[hN]at hr kn D;rw[hN,show(N:Int).toNat=N from rfl];obtain⟨ad,al,an⟩:=sj hr;by_cases I:qz m l r a=true
   ·
    rw[if_pos I];unfold qz at I;rw[hN]at I;simp only[Bool.and_eq_true,decide_eq_true_eq]at I;obtain⟨⟨g1,g2⟩,g3,g4⟩:=I;obtain⟨r,rfl⟩:=Int.eq_ofNat_of_zero_le g1;have a8:r <N:=by omega
    have ab:=(xb ⟨al,an⟩ ad).1 hr;have hk:bC m a=true:=eC.2 ⟨g3,g4⟩;have kd:=EH h hX hv hk hf;have hB:=fun x (hm:x∈aT m a (-1) 0 p.ao)=>nw hv hk (.inr rfl) hm;have hA:=fun x (hm:x∈aT m a 1 0 p.ao)=>nw hv hk (.inl rfl) hm
    have bw:(aT m a 1 0 p.ao).length<=2000:=by
     have h1:=ou m a 1 0 p.ao;omega
    have J:fX l (du m p (n_ N (r:Int) a))=mQ l r (aT m a 1 0 p.ao):=by
     have h0:dw m p (n_ N (r:Int) a)=bn r (-1) (aT m a 1 0 p.ao):=by
      unfold dw;rw[if_pos (show(n_ N (r:Int) a).k=0 from rfl),uc];rfl
     have h1:ii m p (n_ N (r:Int) a)=bn r 1 (aT m a (-1) 0 p.ao):=by
      unfold ii;rw[if_pos (show(n_ N (r:Int) a).k=0 from rfl)];rfl
     rw[Bj,rO,h0,h1,M2 (fun x hm=>by obtain⟨_,_,_,h2,_⟩:=hB x hm;exact h2),List.append_nil]
     exact Ey fun x hm=>by
      obtain⟨j,_,h1,h2,_⟩:=hA x hm;exact⟨j,h1,h2⟩
    rw[J];rw[uc]at kd;have bU:=fY (aT m a 1 0 p.ao);clear hB J;generalize aT m a 1 0 p.ao=A at*
    obtain⟨X,V⟩:∃X,mQ l r A=X:=⟨_,rfl⟩;rw[V];unfold aN at z D kd⊢;rw[aS]at z kd⊢;rw[bt]at z D kd⊢;refine Cl.cL rfl Tryz.func22 rfl rfl rfl ?_;refine ak ?_;refine ax.cA (fun x:Nat×Bool×List bE=>[(13,.ls 2),(15,.t (.int .i64 (x.1:Int)))]) (fun x=>[.box false 30 (([ay m.ai,.arr (bq m.tables),.arr (bX m.bx),.arr (dc m.cons),.arr (dk m.ops),.arr (cK m.au),.arr (cu m.aG)]:List AV).map .t),.box false 35 (([.arr (eA p.ao),.arr (dO p.aD),.arr (cw p.places),ay p.bh]:List AV).map .t),.row false x.2.1 4 (ba x.2.2)]) (fun x=>x.1<=A.length/\x.2.2=mQ l r (A.take x.1)) (fun x=>A.length - x.1) (0,false,[]) rfl rfl ⟨by dsimp only;omega,rfl⟩ (fun x hq=>?_);obtain⟨q,bd,O⟩:=x;dsimp only at hq⊢;obtain⟨h1,h2⟩:=hq
    have be:O.length<=2000:=by
     rw[h2];exact Nat.le_trans (EB l r _) (by rw[List.length_take];omega)
    rcases Nat.lt_or_ge q A.length with h3|h3
    ·
     obtain⟨x,U⟩:=aj h3;have hc:=kX U;have v:=M_ (l:=l) (r:=r) U;obtain⟨j,hj,bb,a1,a6⟩:=hA x (List.mem_of_getElem? U);obtain⟨xk,xi,xe,xn⟩:=x;injection bb with e1 e2 e3 e4
     subst e1 e2 e3;dsimp only at hc v a1 a6;rw[<- h2,show((j:Int)).toNat=j from rfl]at v;have hs:bW p.ao.length N ⟨j,r,0⟩:=⟨hj,a8⟩;obtain⟨y,n,hy,hn,bT,aq,_⟩:=na ad hs;have hb:=ab _ hs;rw[aq]at hb v;dsimp only at hy hn;have av:(aF l)[j]?=some [.arr (aE y)]:=iG hy;have Z:(aE y)[r]?=some [.int .i64 n]:=aW hn;have bm:j <(aF l).length:=aC av;have b0:r <(aE y).length:=aC Z;by_cases G:0 <xn - n
     ·
      rw[if_pos G]at v;have aV:b6 ((ba O).length+1) 32=true:=by rw[fY];exact oO (by omega)
      have ag:ba O++[[.int .i64 0,.int .i64 (j:Int),.int .i64 0,.int .i64 (xn - n)]]=ba (O++[⟨0,(j:Int),0,xn - n⟩]):=mR O [⟨0,(j:Int),0,xn - n⟩]
      repeat'(first
|(with_reducible first|apply am.seq|apply am.block)
|((with_reducible apply am.text);(try case hm=>exact rfl))
|((with_reducible apply am.drawn);(case hm=>exact rfl))
|(with_reducible first|apply am.skip|apply dx)
|((with_reducible apply am.ew);(case hc=>exact rfl))
|((with_reducible apply aa.aR);(case hp=>exact aA))
|(with_reducible first|apply aa.cI|apply aa.eE)
|((with_reducible apply aa.u);(case hx=>((with_reducible apply ac.da);(case hs=>exact fun _=>rfl);(case ha|ht=>exact rfl);(case hr=>first|(with_reducible exact c7)|(with_reducible exact rw1)|(with_reducible exact c8)|(with_reducible exact rw3)|(with_reducible exact rw4)|exact rfl);(case hx|hy|hn|hb|hok=>exact rfl);(case hlen=>exact aV);(case hv=>exact ag);(case hk=>exact de);(case hf=>exact leq))))
|((with_reducible apply aa.u0);(case hx=>exact af))
|fail)
      exact⟨(q+1,true,O++[⟨0,(j:Int),0,xn - n⟩]),rfl,rfl,⟨by dsimp only;omega,v.symm⟩,by dsimp only;omega⟩
     ·
      rw[if_neg G,List.append_nil]at v;refine ak ?_;exact⟨(q+1,bd,O),rfl,rfl,⟨by dsimp only;omega,v.symm⟩,by dsimp only;omega⟩
    ·
     rw[List.take_of_length_le h3,V]at h2;subst h2;exact ae
   ·
    rw[if_neg I]
    have bl:r <0\/(N:Int)<=r\/a <0\/(m.au.length:Int)<=a:=by
     unfold qz at I;rw[hN]at I;simp only[Bool.and_eq_true,decide_eq_true_eq]at I;omega
    unfold aN at z D⊢;rw[aS]at z⊢;rw[bt]at z D⊢;refine Cl.cL rfl Tryz.func22 rfl rfl rfl ?_
    repeat'(first
|((with_reducible apply aa.ee);(case hp=>exact aA))
|((with_reducible apply aa.aX)<;>intro hq)
|((with_reducible apply aa.bi)<;>intro hq)
|(refine ar ?_)
|((with_reducible apply aa.aB);(case hW=>exact rfl);(case hx=>first
|(exact ap D)
|exact af))
|((with_reducible apply aa.u0);(case hx=>first
|(exact ap z)
|(exact ap kn)
|exact af))
|fail)
    all_goals first|exact⟨.inr rfl,rfl⟩|(exfalso;omega)
def Nu{m:Md}{p:Pln}{l:List (List Int)}{E:List Ev}(h:PW m p)(hX:mj m)(hf:p.ao.length<=1000)(hl:l.length<=1000000)(hx:∀x∈l,x.length<=1000000)(hE:E.length<=1000000)(he:∀e∈E,e.past.length<=1000000):Cl ah 21 [.t (bk m),.t (aN p),.t (.arr (aF l)),.t (.arr (cC E))] [] (.t (.aJ [.arr (aF (lP m p l E).1),.int .i64 (lP m p l E).2])) []:=by
 have y:=ut h;have J:=yc (p:=p) (eM l) (l:=l) (by omega) (by omega) (fun x hm=>by have:=hx x hm;omega);have kn:=FG (l:=l) (by omega) (fun x hm=>by have:=hx x hm;omega);have a1:=oE E;have aD:=ic l;unfold lP;have ke:=fun(n:Int) (e:Ev) (hm:e∈E)=>Gs h.md n e (by have:=he e hm;omega);have kk:=fun(e:Ev)=>DT (p:=p) (e:=e) (by omega);have kt:=fun(z:List (List Int)) (e:Ev) (ho:lh m p e) (hs:bM p.ao.length e.past.length z)=>Hk (l:=z) ho hX hs;have I:=fun(z:List (List Int)) (e:Ev) (ho:lh m p e) (hs:bM p.ao.length e.past.length z)=>Dz (l:=z) ho hX hs
 cases hv:cX m p with
 |false=>
  rw[hv]at y;rw[if_neg (by simp)];unfold aN at y J⊢;rw[aS]at y⊢;rw[bt]at y J⊢;refine Cl.cL rfl Tryz.func21 rfl rfl rfl ?_;exact ae
 |true=>
  rw[hv]at y
  cases hr:eI p (eM l) l with
  |false=>
   rw[hr]at J;rw[if_neg (by simp)];unfold aN at y J⊢;rw[aS]at y⊢;rw[bt]at y J⊢;refine Cl.cL rfl Tryz.func21 rfl rfl rfl ?_;exact ae
  |true=>
   rw[hr]at J;obtain⟨T,hT⟩:∃T,(E.all fun e=>fC m p (kW l e) e)=T:=⟨_,rfl⟩;rw[hT]
   have an:eP 1 (aF l)=true:=by
    unfold eP aF;rw[List.all_map];exact List.all_eq_true.2 fun x _=>rfl
   have aG:b6 (([]:List (List AV)).length+(aF l).length) 24=true:=by rw[List.length_nil,Nat.zero_add,aD];exact tQ hl (by decide)
   unfold aN at y J kk kt I⊢;rw[aS]at y ke kt I⊢;rw[bt]at y J kk kt I⊢;refine Cl.cL rfl Tryz.func21 rfl rfl rfl ?_
   repeat'(first
|(with_reducible first|apply am.seq|apply am.block)
|((with_reducible apply am.text);(try case hm=>exact rfl))
|((with_reducible apply am.drawn);(case hm=>exact rfl))
|(with_reducible first|apply am.skip|apply dx)
|((with_reducible apply am.jB);(case hc=>exact rfl))
|(with_reducible apply aa.cI)
|((with_reducible apply aa.u);(case hx=>((with_reducible apply ac.da);(case hs=>exact fun _=>rfl);(case ha|ht=>exact rfl);(case hr=>first|(with_reducible exact c7)|(with_reducible exact rw1)|(with_reducible exact c8)|(with_reducible exact rw3)|(with_reducible exact rw4)|exact rfl);(case hx|hy|hn|hb=>exact rfl);(case hok=>exact an);(case hlen=>exact aG);(case hv=>exact(List.nil_append (aF l)));(case hk=>exact de);(case hf=>exact leq))))
|((with_reducible apply aa.aB);(case hW=>exact rfl);(case hx=>first
|(exact ap kn)
|(exact ap J)
|exact af))
|((with_reducible apply aa.u0);(case hx=>first
|(exact ap y)
|exact af))
|fail)
   apply am.lK
   case ho=>exact rfl
   case hp=>exact rfl
   case hl=>exact rfl
   case hs=>exact slt
   refine ax.ind (fun x:List (List Int)×Nat=>[(10,.t (.arr (aF x.1))),(11,.t (.int .i64 (x.2:Int)))]) (fun x=>x.2<=E.length/\x.1=(E.take x.2).foldl (jP m p) l/\((E.take x.2).all fun e=>fC m p (kW l e) e)=true) (fun x=>E.length - x.2) (l,0) rfl ⟨by dsimp only;omega,rfl,rfl⟩ (fun x hq=>?_);obtain⟨z,q⟩:=x;dsimp only at hq⊢;obtain⟨h1,h2,h3⟩:=hq;rcases Nat.lt_or_ge q E.length with h4|h4
   ·
    obtain⟨e,G⟩:=aj h4;have hm:=List.mem_of_getElem? G;have hc:(cC E)[q]?=some (b8 e):=by unfold cC;rw[List.getElem?_map,G];rfl
    have a6:=aO e.past;have aX:z.map List.length=l.map List.length:=by rw[h2];exact ud m p _ l
    obtain⟨n,hn⟩:∃n,kW l e=n:=⟨_,rfl⟩;obtain⟨b,hb⟩:∃b,fC m p n e=b:=⟨_,rfl⟩;have ke:=ke n e hm;have kk:=kk e;have al:fC m p n e=(fu m n e&&p8 p e):=rfl;obtain⟨b1,V⟩:∃b,fu m n e=b:=⟨_,rfl⟩;obtain⟨b2,Z⟩:∃b,p8 p e=b:=⟨_,rfl⟩;rw[al,V,Z]at hb;have ab:fC m p n e=b:=by rw[al,V,Z,hb]
    rw[V]at ke;rw[Z]at kk
    have U:((E.take (q+1)).all fun e=>fC m p (kW l e) e)=b:=by
     rw[List.take_add_one,List.all_append,h3,G,Bool.true_and];show(fC m p (kW l e) e&&true)=b
     rw[hn,ab,Bool.and_true]
    have D:(l=[]->n=e.past.length)/\(l≠[]->n=eM l):=by
     cases l with
     |nil=>exact⟨fun _=>hn.symm,fun h=>absurd rfl h⟩
     |cons x l=>exact⟨fun h=>(List.cons_ne_nil _ _ h).elim,fun _=>hn.symm⟩
    cases b with
    |false=>
     have au:T=false:=by
      rw[<- hT,<- Bool.not_eq_true];intro hA;have:=List.all_eq_true.1 hA e hm;rw[hn,ab]at this;cases this
     subst au;rw[if_neg (by simp)];unfold bN b8 at ke kk;unfold b8 at hc;by_cases v:l=[]
     ·
      have ad:l.length=0:=by rw[v];rfl
      obtain rfl:=D.1 v
      cases b1 with
      |false=>
       exact ae
      |true=>
       obtain rfl:b2=false:=by simpa using hb
       exact ae
     ·
      have ad:¬(l.length:Int)=0:=by have:=List.length_pos_iff.2 v;omega
      obtain rfl:=D.2 v
      cases b1 with
      |false=>
       exact ae
      |true=>
       obtain rfl:b2=false:=by simpa using hb
       exact ae
    |true=>
     obtain⟨hok,aR⟩:=vK h hf hv (n:=n) ab;obtain⟨rfl,rfl⟩:b1=true/\b2=true:=by simpa using hb
     have aq:=GB aX (EX hr (hn.trans aR));have kt:=kt z e hok aq;have aV:bM p.ao.length e.past.length ((dw m p e).foldl aP z):=o5 (fun s hs=>((Br hok).1 s hs).1) aq;have I:=I ((dw m p e).foldl aP z) e hok aV
     have ai:(ii m p e).foldl aP ((dw m p e).foldl aP z)=(E.take (q+1)).foldl (jP m p) l:=by
      rw[List.take_add_one,List.foldl_append,<- h2,G];show _=jP m p z e
      unfold jP;rw[Bj,List.foldl_append]
     rw[ai]at I;generalize(dw m p e).foldl aP z=T9 at kt I;obtain⟨z',ag⟩:∃z',(E.take (q+1)).foldl (jP m p) l=z':=⟨_,rfl⟩;rw[ag]at I;unfold bN b8 at ke kk kt I;unfold b8 at hc;by_cases v:l=[]
     ·
      have ad:l.length=0:=by rw[v];rfl
      obtain rfl:=D.1 v;refine ak ?_;exact⟨(z',q+1),rfl,rfl,⟨by dsimp only;omega,ag.symm,U⟩,by dsimp only;omega⟩
     ·
      have ad:¬(l.length:Int)=0:=by have:=List.length_pos_iff.2 v;omega
      obtain rfl:=D.2 v;refine ak ?_;exact⟨(z',q+1),rfl,rfl,⟨by dsimp only;omega,ag.symm,U⟩,by dsimp only;omega⟩
   ·
    rw[List.take_of_length_le h4]at h2 h3;have av:T=true:=by rw[<- hT,h3]
    subst av;rw[if_pos ⟨rfl,rfl,rfl⟩,<- h2];exact ae
end Go.Proofs.YtjolgbkkocjpgaaGreatDoor
