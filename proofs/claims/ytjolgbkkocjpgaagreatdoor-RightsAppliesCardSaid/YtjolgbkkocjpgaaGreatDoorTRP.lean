/- Law 39: the reference's. No condition. -/
import Derived.Test.YtjolgbkkocjpgaaGreatDoorTRT
import Derived.Test.YtjolgbkkocjpgaaGreatDoorTRC
import Derived.Test.YtjolgbkkocjpgaaGreatDoorRPG
import Derived.Test.YtjolgbkkocjpgaaGreatDoorTRS
set_option linter.all false
namespace Go.Proofs.YtjolgbkkocjpgaaGreatDoor
open Go.RowKit
set_option maxRecDepth 100000
set_option maxHeartbeats 32000000
def yc{p:Pln}(R:Int){l:List (List Int)}(hp:p.ao.length<=140737488351232)(hl:l.length<=140737488351232)(hx:∀x∈l,x.length<=140737488351232):Cl ah 45 [.t (aN p),.t (.int .i64 R),.t (.arr (aF l))] [] (.t (.bool (eI p R l))) []:=by
 have al:=ic l;have an:=kE p.ao;obtain⟨T,I⟩:∃b,(l.all fun x=>decide ((x.length:Int)=R)&&x.all gQ)=b:=⟨_,rfl⟩;unfold eI;rw[I];unfold aN;rw[bt];refine Cl.aq rfl Tryz.func45 rfl rfl rfl ?_;by_cases h0:l.length=p.ao.length
 ·
  by_cases h1:1<=R/\R<=5
  ·
   obtain⟨h1,h2⟩:=h1;obtain⟨N,rfl⟩:=Int.eq_ofNat_of_zero_le (show 0<=R by omega);rw[decide_eq_true h0,decide_eq_true h1,decide_eq_true h2,Bool.true_and,Bool.true_and];refine ak ?_;refine ax.ind (fun q:Nat=>[(7,.t (.int .i64 (q:Int)))]) (fun q=>q<=l.length/\(l.take q).all (fun x=>decide ((x.length:Int)=N)&&x.all gQ)=true) (fun q=>l.length - q) 0 rfl ⟨by omega,rfl⟩ (fun q hq=>?_);obtain⟨av,D⟩:=hq;rcases Nat.lt_or_ge q l.length with J|J
   ·
    obtain⟨x,u⟩:=aj J;have hc:=iG u;have au:=aO x;have hs:=sP u D;have hb:=hx x (List.mem_of_getElem? u);by_cases h6:x.length=N
    ·
     obtain⟨W,hW⟩:∃b,x.all gQ=b:=⟨_,rfl⟩;have v:(x.length:Int)=N:=by omega
     rw[hW,decide_eq_true v,Bool.true_and]at hs;refine ak ?_;refine ax.ind (fun k:Nat=>[(8,.t (.int .i64 (k:Int)))]) (fun k=>k<=N/\(x.take k).all gQ=true) (fun k=>N - k) 0 rfl ⟨by omega,rfl⟩ (fun k hk=>?_);obtain⟨ai,z⟩:=hk;rcases Nat.lt_or_ge k N with h7|h7
     ·
      obtain⟨n,U⟩:=aj (xs:=x) (k:=k) (by omega);have ag:=aW U;have Z:=sP U z;by_cases G:0<=n/\n<=1000000000000
      ·
       obtain⟨G,h9⟩:=G;have V:gQ n=true:=by unfold gQ;rw[decide_eq_true G,decide_eq_true h9];rfl
       refine ak ?_;exact⟨k+1,rfl,rfl,⟨by omega,Z.trans V⟩,by omega⟩
      ·
       have y:T=false:=by
        rw[<- I];refine pC (List.mem_of_getElem? u) ?_;rw[decide_eq_true v,Bool.true_and];refine pC (List.mem_of_getElem? U) ?_;unfold gQ;rw[<- Bool.not_eq_true,Bool.and_eq_true,decide_eq_true_eq,decide_eq_true_eq];exact G
       subst y;by_cases h9:n <0
       ·
        exact ae
       ·
        have ad:1000000000000 <n:=by omega
        exact ae
     ·
      rw[List.take_of_length_le (by omega),hW]at z;refine ak ?_;exact⟨q+1,rfl,rfl,⟨by omega,hs.trans z⟩,by omega⟩
    ·
     have v:¬(x.length:Int)=N:=by omega
     have y:T=false:=by
      rw[<- I];refine pC (List.mem_of_getElem? u) ?_;rw[decide_eq_false v,Bool.false_and]
     subst y;exact ae
   ·
    rw[List.take_of_length_le J,I]at D;subst D;exact ae
  ·
   have h2:(decide (1<=R)&&decide (R<=5))=false:=by
    rw[<- Bool.not_eq_true,Bool.and_eq_true,decide_eq_true_eq,decide_eq_true_eq];exact h1
   rw[h2,Bool.false_and];by_cases h3:R <1
   ·
    exact ae
   ·
    have h4:5 <R:=by omega
    exact ae
 ·
  have ab:¬(l.length:Int)=p.ao.length:=by omega
  rw[decide_eq_false h0,Bool.false_and,Bool.and_false];exact ae
def FG{l:List (List Int)}(hl:l.length<=140737488351232)(hx:∀x∈l,x.length<=140737488351232):Cl ah 50 [.t (.arr (aF l))] [] (.t (.int .i64 (eM l))) []:=by
 have u:=ic l
 cases l with
 |nil=>
  refine Cl.aq rfl Tryz.func50 rfl rfl rfl ?_;have z:([]:List (List Int)).length=0:=rfl;exact ae
 |cons x l=>
  have v:(aF (x::l))[0]?=some [.arr (aE x)]:=rfl;have y:=aO x;have h1:(x::l).length=l.length+1:=rfl;have D:=hx x (by simp);rw[show eM (x::l)=(x.length:Int) from rfl];generalize aF (x::l)=Z at v u⊢;refine Cl.aq rfl Tryz.func50 rfl rfl rfl ?_;exact ae
def qu(l:List (List Int)):Bool:=l.any fun x=>x.any fun n=>decide (n <0)
def BX{α:Type}{l:List α}{f:α->Bool}{q:Nat}{x:α}(hx:l[q]?=some x)(h:(l.take q).any f=false):(l.take (q+1)).any f=f x:=by
 rw[List.take_add_one,List.any_append,h,hx];simp
def Nj{l:List (List Int)}(hl:l.length<=140737488351232)(hx:∀x∈l,x.length<=140737488351232):Cl ah 47 [.t (.arr (aF l))] [] (.t (.bool (qu l))) []:=by
 have ad:=ic l;unfold qu;obtain⟨T,G⟩:∃b,(l.any fun x=>x.any fun n=>decide (n <0))=b:=⟨_,rfl⟩;rw[G];refine Cl.aq rfl Tryz.func47 rfl rfl rfl ?_;refine ak ?_;refine ax.ind (fun q:Nat=>[(3,.t (.int .i64 (q:Int)))]) (fun q=>q<=l.length/\(l.take q).any (fun x=>x.any fun n=>decide (n <0))=false) (fun q=>l.length - q) 0 rfl ⟨by omega,rfl⟩ (fun q hq=>?_);obtain⟨ai,y⟩:=hq;rcases Nat.lt_or_ge q l.length with z|z
 ·
  obtain⟨x,u⟩:=aj z;have hc:=iG u;have ag:=aO x;have hs:=BX u y;have hb:=hx x (List.mem_of_getElem? u);refine ak ?_;refine ax.ind (fun k:Nat=>[(4,.t (.int .i64 (k:Int)))]) (fun k=>k<=x.length/\(x.take k).any (fun n=>decide (n <0))=false) (fun k=>x.length - k) 0 rfl ⟨by omega,rfl⟩ (fun k hk=>?_);obtain⟨ab,v⟩:=hk;rcases Nat.lt_or_ge k x.length with D|D
  ·
   obtain⟨n,J⟩:=aj D;have Z:=aW J;have U:=BX J v;by_cases V:n <0
   ·
    have I:T=true:=by
     rw[<- G,List.any_eq_true];refine⟨x,List.mem_of_getElem? u,?_⟩;rw[List.any_eq_true];exact⟨n,List.mem_of_getElem? J,by simpa using V⟩
    subst I;exact ae
   ·
    refine ak ?_;exact⟨k+1,rfl,rfl,⟨by omega,U.trans (decide_eq_false V)⟩,by omega⟩
  ·
   rw[List.take_of_length_le D]at v;refine ak ?_;exact⟨q+1,rfl,rfl,⟨by omega,hs.trans v⟩,by omega⟩
 ·
  rw[List.take_of_length_le z,G]at y;subst y;exact ae
def p8(p:Pln)(e:Ev):Bool:=!fq e ||decide (e.gi <p.ao.length)
def DT{p:Pln}{e:Ev}(hp:p.ao.length<=140737488351232):Cl ah 44 [.t (aN p),.t (bN e)] [] (.t (.bool (p8 p e))) []:=by
 obtain⟨r,z,D,P,K,y,gk,gi,ge,ga,u,pl,se⟩:=e;have v:=kE p.ao;unfold p8 fq aN bN b8;rw[bt];dsimp only;refine Cl.aq rfl Tryz.func44 rfl rfl rfl ?_;exact ae
def fF(A:List bE):List bE:=A.filter fun x=>decide (x.k=0)
def Po{A:List bE}(hl:A.length<=4000):Cl ah 84 [.t (.arr (ba A))] [] (.t (.arr (ba (fF A)))) []:=by
 have ad:=fY A;refine Cl.cL rfl Tryz.func84 rfl rfl rfl ?_;refine ak ?_;refine ax.cA (fun x:Nat×Bool×List bE=>[(3,.ls 0),(4,.t (.int .i64 (x.1:Int)))]) (fun x=>[.row false x.2.1 4 (ba x.2.2)]) (fun x=>x.1<=A.length/\x.2.2=fF (A.take x.1)) (fun x=>A.length - x.1) (0,false,[]) rfl rfl ⟨by dsimp only;omega,rfl⟩ (fun x Z=>?_);obtain⟨q,V,O⟩:=x;dsimp only at Z⊢;obtain⟨h1,h2⟩:=Z
 have ab:O.length<=q:=by
  rw[h2];unfold fF;exact Nat.le_trans (List.length_filter_le _ _) (by rw[List.length_take];omega)
 rcases Nat.lt_or_ge q A.length with h3|h3
 ·
  obtain⟨x,y⟩:=aj h3;have hc:=kX y;obtain⟨I,D,z,G⟩:=x;dsimp only at hc
  have v:fF (A.take (q+1))=O++(if I=0 then[⟨I,D,z,G⟩]else[]):=by
   rw[h2];unfold fF;rw[List.take_add_one,List.filter_append,y];congr 1;by_cases hk:I=0
   ·simp[hk]
   ·simp[hk]
  by_cases hk:I=0
  ·
   subst hk;rw[if_pos rfl]at v;have J:b6 ((ba O).length+1) 32=true:=by rw[fY];exact oO (by omega)
   have U:ba O++[[.int .i64 0,.int .i64 D,.int .i64 z,.int .i64 G]]=ba (O++[⟨0,D,z,G⟩]):=mR O [⟨0,D,z,G⟩]
   repeat'(first
|(with_reducible first|apply am.seq|apply am.block)
|((with_reducible apply am.text);(try case hm=>exact rfl))
|(with_reducible first|apply am.skip|apply dx)
|((with_reducible apply am.ew);(case hc=>exact rfl))
|((with_reducible apply aa.aR);(case hp=>exact aA))
|(with_reducible first|apply aa.cI|apply aa.eE)
|((with_reducible apply aa.u);(case hx=>((with_reducible apply ac.da);(case hs=>exact fun _=>rfl);(case ha|ht=>exact rfl);(case hr=>first|(with_reducible exact c7)|(with_reducible exact rw1)|(with_reducible exact c8)|(with_reducible exact rw3)|(with_reducible exact rw4)|exact rfl);(case hx|hy|hn|hb|hok=>exact rfl);(case hlen=>exact J);(case hv=>exact U);(case hk=>exact de);(case hf=>exact leq))))
|((with_reducible apply aa.u0);(case hx=>exact af))
|fail)
   exact⟨(q+1,true,O++[⟨0,D,z,G⟩]),rfl,rfl,⟨by dsimp only;omega,v.symm⟩,by dsimp only;omega⟩
  ·
   rw[if_neg hk,List.append_nil]at v;refine ak ?_;exact⟨(q+1,V,O),rfl,rfl,⟨by dsimp only;omega,v.symm⟩,by dsimp only;omega⟩
 ·
  rw[List.take_of_length_le h3]at h2;rw[<- h2];exact ae
def EH{m:Md}{p:Pln}{k:Int}(h:PW m p)(hl:mj m)(hv:cX m p=true)(hk:bC m k=true)(hf:p.ao.length<=1000):Cl ah 51 [.t (bk m),.t (aN p),.t (.int .i64 k)] [] (.t (.arr (ba (fF (bO m p k 1))))) []:=by
 have v:(bO m p k 1).length<=4000:=by
  have h1:=rR m p k 1;have:=(jR.1 hv).eN;omega
 have u:=O5 (R:=1) h hl (kI.2 ⟨hv,eC.1 hk,by omega,by omega⟩) (by omega);have z:=Po v;obtain⟨D,y⟩:∃b,eH p k=b:=⟨_,rfl⟩;rw[y]at u;generalize bO m p k 1=A at*
 unfold aN at u⊢;rw[aS]at u⊢;rw[bt]at u⊢;refine Cl.cL rfl Tryz.func51 rfl rfl rfl ?_
 repeat'(first
|(refine ar ?_)
|((with_reducible apply aa.u0);(case hx=>first
|((with_reducible apply ac.IJ);(case hcal|hav|hx|hh|hm=>exact rfl);(case hcl=>exact z);(case hd|hf'|hn=>exact rfl);(case hf=>exact leq))
|(exact lS u)
|exact af))
|fail)
 exact⟨.inr rfl,rfl⟩
def LH{l:List (List Int)}(hx:∀x∈l,x.length<=1000000):(aF l).all rH=true:=by
 unfold aF;rw[List.all_map,List.all_eq_true];intro x u;show((aE x).all tF&&Nat.ble (aE x).length 1000000)=true
 rw[Bool.and_eq_true,Nat.ble_eq,aO];refine⟨?_,hx x u⟩;unfold aE;rw[List.all_map,List.all_eq_true];intro n _;rfl
def vf{N R:Nat}{l:List (List Int)}{s:cz}(h:bM N R l)(hs:bW N R s)(D:N<=1000000)(V:R<=1000000):Cl ah 81 [.t (.arr (aF l)),.t (.int .i64 (s.i:Int)),.t (.int .i64 (s.r:Int)),.t (.int .i64 s.a)] [] (.t (.arr (aF (aP l s)))) []:=by
 obtain⟨x,n,U,J,Z,_,u⟩:=na h hs;refine Cl.ext (xs:=[.arr (aF l),.int .i64 (s.i:Int),.int .i64 (s.r:Int),.int .i64 s.a]) (by kernel_rfl) rfl ?_;have h1:=LH (l:=l) (fun x I=>by have:=h.2 x I;omega);have h2:Nat.ble (aF l).length 1000000=true:=by rw[ic,Nat.ble_eq,h.1];exact D
 have hd:decide (0<=(s.i:Int)/\0<=(s.r:Int))=true:=decide_eq_true ⟨by omega,by omega⟩;have v:(aF l)[(s.i:Int).toNat]?=some [.arr (aE x)]:=iG U;have y:(aE x)[(s.r:Int).toNat]?=some [.int .i64 n]:=aW J
 have h3:sX (aF l) s.i s.r s.a=some (.t (.arr (aF (aP l s))),[]):=by
  unfold sX;rw[h1,h2,hd];simp only[v,y,Bool.and_self];rw[u];have z:(aE x).set s.r [.int .i64 (IntKind.i64.wrap (n+s.a))]=aE (x.set s.r (IntKind.i64.wrap (n+s.a))):=by unfold aE;rw[List.map_set]
  rw[show(s.r:Int).toNat=s.r from rfl,show(s.i:Int).toNat=s.i from rfl,z];unfold aF;rw[List.map_set];rfl
 have G:pY 81 [.arr (aF l),.int .i64 (s.i:Int),.int .i64 (s.r:Int),.int .i64 s.a]=none:=rfl;show mG 81 [.arr (aF l),.int .i64 (s.i:Int),.int .i64 (s.r:Int),.int .i64 s.a]=_
 unfold mG;rw[G];exact h3
def dw(m:Md)(p:Pln)(e:Ev):List cz:=if e.k=0 then bn e.r.toNat (-1) (fF (bO m p e.a 1))else if fq e=true then[⟨e.gi.toNat,e.r.toNat,0 - e.ga⟩]else[]
def ii(m:Md)(p:Pln)(e:Ev):List cz:=if e.k=0 then bn e.r.toNat 1 (aT m e.a (-1) 0 p.ao)else if fq e=true then[⟨e.gi.toNat,e.to.toNat,e.ga⟩]else[]
theorem o5{N R:Nat}:∀{S:List cz} {z:List (List Int)},(∀s∈S,bW N R s)->bM N R z->bM N R (S.foldl aP z)
 |[],z,_,h=>h
 |s::S,z,u,h=>o5 (S:=S) (z:=aP z s) (fun t v=>u t (by simp[v])) (lX h (u s (by simp)))
def Hk{m:Md}{p:Pln}{e:Ev}{l:List (List Int)}(h:lh m p e)(hx:mj m)(I:bM p.ao.length e.past.length l):Cl ah 46 [.t (bk m),.t (aN p),.t (.arr (aF l)),.t (bN e)] [] (.t (.arr (aF ((dw m p e).foldl aP l)))) []:=by
 obtain⟨er,en,et,P,K,u,gk,gi,ge,ga,y,pl,se⟩:=e;obtain⟨aG,D,hr,v,ag,ab⟩:=h;dsimp only at D hr v ag I;obtain⟨r,rfl⟩:=Int.eq_ofNat_of_zero_le hr.1;have G:r <P.length:=by omega
 unfold dw;by_cases hK:K=0
 ·
  subst hK;have an:=v rfl;obtain⟨hv,⟨aq,au⟩,a6,a8⟩:=kI.1 an;have hk:bC m u=true:=eC.2 ⟨aq,au⟩;rw[if_pos rfl];have kn:=EH aG hx hv hk ab
  have hA:∀x∈fF (bO m p u 1),x.k=0/\∃j:Nat,j <p.ao.length/\x.i=(j:Int)/\0 <x.n/\x.n<=128000000000000:=fun x hm=>by
   unfold fF at hm;rw[List.mem_filter,decide_eq_true_eq]at hm;exact⟨hm.2,wC hv hk (R:=1) hm.1 hm.2⟩
  have bd:(fF (bO m p u 1)).length<=2000:=by
   have h1:=rR m p u 1;have:=(jR.1 hv).eN;have h2:(fF (bO m p u 1)).length<=(bO m p u 1).length:=List.length_filter_le _ _;omega
  have be:=fY (fF (bO m p u 1));dsimp only;generalize fF (bO m p u 1)=A at*
  have V:∀s∈bn r (-1) A,bW p.ao.length P.length s:=fun s hs=>by
   unfold bn at hs;obtain⟨x,hx,rfl⟩:=List.mem_map.1 hs;rw[List.mem_filter,decide_eq_true_eq]at hx;obtain⟨_,j,h1,h2,h3,h4⟩:=hA x hx.1;exact⟨by dsimp only;omega,G⟩
  rw[show((r:Int)).toNat=r from rfl];obtain⟨Zf,hZ⟩:∃Z,(bn r (-1) A).foldl aP l=Z:=⟨_,rfl⟩;rw[hZ];unfold aN at kn⊢;unfold bN b8;rw[aS,bt]at kn⊢;dsimp only;refine Cl.cL rfl Tryz.func46 rfl rfl rfl ?_;refine ak ?_;refine ax.ind (fun x:List (List Int)×Nat=>[(2,.t (.arr (aF x.1))),(10,.t (.int .i64 (x.2:Int)))]) (fun x=>x.2<=A.length/\x.1=(bn r (-1) (A.take x.2)).foldl aP l) (fun x=>A.length - x.2) (l,0) rfl ⟨by dsimp only;omega,rfl⟩ (fun x hq=>?_);obtain⟨z,q⟩:=x;dsimp only at hq⊢;obtain⟨h1,h2⟩:=hq;rcases Nat.lt_or_ge q A.length with h3|h3
  ·
   obtain⟨x,U⟩:=aj h3;have hc:=kX U;have J:=o9 (r:=r) (sg := -1) U;have aV:bM p.ao.length P.length z:=by rw[h2];exact o5 (fun s hs=>V s (uy hs)) I
   obtain⟨ai,j,hj,ad,av,aD⟩:=hA x (List.mem_of_getElem? U);obtain⟨xk,xi,xe,xn⟩:=x;dsimp only at hc J ai ad av aD;subst ai ad;rw[if_pos rfl]at J;have hs:bW p.ao.length P.length ⟨j,r,0 - xn⟩:=⟨hj,G⟩;have kc:=vf aV hs (by omega) (by omega);dsimp only at kc
   repeat'(first
|((with_reducible apply aa.aR);(case hp=>exact aA))
|(refine ar ?_)
|((with_reducible apply aa.u0);(case hx=>first
|((with_reducible apply ac.fZ);(case hx=>exact rfl);(case h=>omega))
|(exact gR kc)
|exact af))
|fail)
   refine⟨(aP z ⟨j,r,0 - xn⟩,q+1),rfl,rfl,⟨by dsimp only;omega,?_⟩,by dsimp only;omega⟩;dsimp only;rw[J,List.foldl_append,<- h2];simp
  ·
   rw[List.take_of_length_le h3]at h2;have aJ:z=Zf:=h2.trans hZ;subst aJ;exact ae
 ·
  rw[if_neg (show¬(Ev.k ⟨(r:Int),en,et,P,K,u,gk,gi,ge,ga,y,pl,se⟩)=0 from hK)];unfold aN;unfold bN b8;rw[aS,bt];dsimp only;refine Cl.cL rfl Tryz.func46 rfl rfl rfl ?_;by_cases ht:K=1/\gk=0
  ·
   obtain⟨rfl,rfl⟩:=ht;have hb:fq ⟨(r:Int),en,et,P,1,u,0,gi,ge,ga,y,pl,se⟩=true:=rfl;rw[if_pos hb];obtain⟨⟨al,bb⟩,⟨bf,bh⟩,aX,a1⟩:=ag hb;obtain⟨g,rfl⟩:=Int.eq_ofNat_of_zero_le al;have hs:bW p.ao.length P.length ⟨g,r,0 - ga⟩:=⟨by dsimp only;omega,G⟩;have kc:=vf I hs (by omega) (by omega);dsimp only at kc
   repeat'(first
|(refine aY ?_)
|(refine ar ?_)
|((with_reducible apply aa.aB);(case hW=>exact rfl);(case hx=>exact af))
|((with_reducible apply aa.u0);(case hx=>first
|((with_reducible apply ac.fZ);(case hx=>exact rfl);(case h=>omega))
|(exact gR kc)
|exact af))
|fail)
   exact⟨.inr rfl,rfl⟩
  ·
   have hb:fq ⟨(r:Int),en,et,P,K,u,gk,gi,ge,ga,y,pl,se⟩=false:=by
    unfold fq;rw[<- Bool.not_eq_true,Bool.and_eq_true,decide_eq_true_eq,decide_eq_true_eq];exact ht
   rw[hb,if_neg (by decide)];by_cases h1:K=1
   ·
    subst h1;have h2:¬gk=0:=fun hh=>ht ⟨rfl,hh⟩;exact ae
   ·
    exact ae
def Dz{m:Md}{p:Pln}{e:Ev}{l:List (List Int)}(h:lh m p e)(hx:mj m)(G:bM p.ao.length e.past.length l):Cl ah 48 [.t (bk m),.t (aN p),.t (.arr (aF l)),.t (bN e)] [] (.t (.arr (aF ((ii m p e).foldl aP l)))) []:=by
 obtain⟨er,en,et,P,K,u,gk,gi,ge,ga,y,pl,se⟩:=e;obtain⟨au,D,hr,v,ab,aJ⟩:=h;dsimp only at D hr v ab G;obtain⟨r,rfl⟩:=Int.eq_ofNat_of_zero_le hr.1;have V:r <P.length:=by omega
 unfold ii;by_cases hK:K=0
 ·
  subst hK;have ag:=v rfl;obtain⟨hv,⟨ai,al⟩,aX,a1⟩:=kI.1 ag;have hk:bC m u=true:=eC.2 ⟨ai,al⟩;rw[if_pos rfl];have kn:=OP au hx hv hk (by omega);have hA:=fun x (hm:x∈aT m u (-1) 0 p.ao)=>nw hv hk (.inr rfl) hm
  have a8:(aT m u (-1) 0 p.ao).length<=2000:=by
   have h1:=ou m u (-1) 0 p.ao;omega
  have bb:=fY (aT m u (-1) 0 p.ao);dsimp only;generalize aT m u (-1) 0 p.ao=A at*
  have U:∀s∈bn r 1 A,bW p.ao.length P.length s:=fun s hs=>by
   unfold bn at hs;obtain⟨x,hx,rfl⟩:=List.mem_map.1 hs;rw[List.mem_filter,decide_eq_true_eq]at hx;obtain⟨j,h1,h2,h3,h4⟩:=hA x hx.1;rw[h2];exact⟨by dsimp only;omega,V⟩
  rw[show((r:Int)).toNat=r from rfl];obtain⟨Zf,hZ⟩:∃Z,(bn r 1 A).foldl aP l=Z:=⟨_,rfl⟩;rw[hZ];unfold aN at kn⊢;unfold bN b8;rw[aS,bt]at kn⊢;dsimp only;refine Cl.cL rfl Tryz.func48 rfl rfl rfl ?_;refine ak ?_;refine ax.ind (fun x:List (List Int)×Nat=>[(2,.t (.arr (aF x.1))),(10,.t (.int .i64 (x.2:Int)))]) (fun x=>x.2<=A.length/\x.1=(bn r 1 (A.take x.2)).foldl aP l) (fun x=>A.length - x.2) (l,0) rfl ⟨by dsimp only;omega,rfl⟩ (fun x hq=>?_);obtain⟨z,q⟩:=x;dsimp only at hq⊢;obtain⟨h1,h2⟩:=hq;rcases Nat.lt_or_ge q A.length with h3|h3
  ·
   obtain⟨x,J⟩:=aj h3;have hc:=kX J;have I:=o9 (r:=r) (sg:=1) J;have aG:bM p.ao.length P.length z:=by rw[h2];exact o5 (fun s hs=>U s (uy hs)) G
   obtain⟨j,hj,aB,an,aq⟩:=hA x (List.mem_of_getElem? J);obtain⟨xk,xi,xe,xn⟩:=x;injection aB with e1 e2 e3 e4
   subst e1 e2 e3;dsimp only at hc I an aq;rw[if_pos rfl]at I;have hs:bW p.ao.length P.length ⟨j,r,xn⟩:=⟨hj,V⟩;have kc:=vf aG hs (by omega) (by omega);dsimp only at kc;refine ak ?_;refine⟨(aP z ⟨j,r,xn⟩,q+1),rfl,rfl,⟨by dsimp only;omega,?_⟩,by dsimp only;omega⟩;dsimp only;rw[I,List.foldl_append,<- h2];simp
  ·
   rw[List.take_of_length_le h3]at h2;have aD:z=Zf:=h2.trans hZ;subst aD;exact ae
 ·
  rw[if_neg (show¬(Ev.k ⟨(r:Int),en,et,P,K,u,gk,gi,ge,ga,y,pl,se⟩)=0 from hK)];unfold aN;unfold bN b8;rw[aS,bt];dsimp only;refine Cl.cL rfl Tryz.func48 rfl rfl rfl ?_;by_cases ht:K=1/\gk=0
  ·
   obtain⟨rfl,rfl⟩:=ht;have hb:fq ⟨(r:Int),en,et,P,1,u,0,gi,ge,ga,y,pl,se⟩=true:=rfl;rw[if_pos hb];obtain⟨⟨ad,a6⟩,⟨av,bd⟩,aR,aV⟩:=ab hb;obtain⟨g,rfl⟩:=Int.eq_ofNat_of_zero_le ad;obtain⟨t,rfl⟩:=Int.eq_ofNat_of_zero_le av;have hs:bW p.ao.length P.length ⟨g,t,ga⟩:=⟨by dsimp only;omega,by dsimp only;omega⟩;have kc:=vf G hs (by omega) (by omega);dsimp only at kc;exact ae
  ·
   have hb:fq ⟨(r:Int),en,et,P,K,u,gk,gi,ge,ga,y,pl,se⟩=false:=by
    unfold fq;rw[<- Bool.not_eq_true,Bool.and_eq_true,decide_eq_true_eq,decide_eq_true_eq];exact ht
   rw[hb,if_neg (by decide)];by_cases h1:K=1
   ·
    subst h1;have h2:¬gk=0:=fun hh=>ht ⟨rfl,hh⟩;exact ae
   ·
    exact ae
end Go.Proofs.YtjolgbkkocjpgaaGreatDoor
