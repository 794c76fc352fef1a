/- The reference's models,part by part,as contracts: effects. No condition. -/
import Derived.Test.YtgbfedgghjcdcaaGreatDoorNG
set_option linter.all false
namespace Go.Proofs.YtgbfedgghjcdcaaGreatDoor
open Go.RowKit
set_option maxRecDepth 100000
set_option maxHeartbeats 16000000
def Ck{n:Int}{l:List fN}{i:Nat}{t:fN}:kU n l i t=true↔(0<=t.cell/\t.cell <n)/\(i=0\/(l.getD (i - 1) ⟨0,0⟩).cell <t.cell)/\t.add≠0/\eF t.add 1000000000=true:=by
 unfold kU;simp only[Bool.and_eq_true,Bool.or_eq_true,Bool.not_eq_true',decide_eq_true_eq,decide_eq_false_iff_not,ne_eq]
def IH{m:Md}{l:List bn}{i:Nat}{u:bn}(h:iE m.aq m.tables false u.cell=none):fK m l i u=false:=by unfold fK;rw[h]
def IJ{m:Md}{l:List bn}{i j:Nat}{u:bn}{t:Tb}(h:iE m.aq m.tables false u.cell=some (j,t))(hs:jM t.kind=true):fK m l i u=true↔(i=0\/(l.getD (i - 1) ⟨0,0,0⟩).cell <u.cell)/\(u.kind=0\/u.kind=1)/\u.value=0:=by
 unfold fK;rw[h];simp only[sH,hs,if_true,Bool.and_eq_true,Bool.or_eq_true,decide_eq_true_eq]
def II{m:Md}{l:List bn}{i j:Nat}{u:bn}{t:Tb}(h:iE m.aq m.tables false u.cell=some (j,t))(hs:jM t.kind=false):fK m l i u=true↔(i=0\/(l.getD (i - 1) ⟨0,0,0⟩).cell <u.cell)/\u.kind=2/\t.lo<=u.value/\u.value<=t.hi:=by
 unfold fK;rw[h];simp only[sH,hs,Bool.false_eq_true,if_false,Bool.and_eq_true,Bool.or_eq_true,decide_eq_true_eq]
structure mD (x:lD):Prop where
 delta:x.delta.length<=17592186044416
 hold:x.hold.length<=17592186044416
 qN:∀r∈x.hold,r.dm.length<=17592186044416
 aQ:x.aQ.length<=17592186044416
 cell:∀u∈x.aQ,u.cell<=9223372036854775807
theorem cW.eff{m:Md}(hm:cW m):∀a∈m.aJ,mD a.eff:=fun a u=>⟨hm.delta a u,hm.hold a u,hm.qN a u,hm.aQ a u,hm.Iz a u⟩
def Gu{m:Md}{x:lD}(hm:cW m)(hx:mD x):Cl ap 150 [.t (di m),.t (.agg (tO x))] [] (.t (.bool (mZ m (dA m.aq m.tables true).length x))) []:=by
 obtain⟨D,H,U⟩:=x;obtain⟨x1,x2,x3,x4,x5⟩:=hx;have x1:D.length<=17592186044416:=x1;have x2:H.length<=17592186044416:=x2;have x3:∀r∈H,r.dm.length<=17592186044416:=x3;have x4:U.length<=17592186044416:=x4;have x5:∀u∈U,u.cell<=9223372036854775807:=x5;have bd:=wL D;have be:=z6 H;have bk:=mu U;have bj:=gV m.tables;have ks:=zt hm;have hR:=zy m.aq m.tables true;have a7:=fun c hc=>G8 (S:=m.aq) (L:=m.tables) (s:=false) (c:=c) (by have:=hm.aq;omega) (by have:=hm.tables;omega) (fun t ht=>by have:=hm.aB t ht;omega) hc;obtain⟨R,aN⟩:∃R,dA m.aq m.tables true=R:=⟨_,rfl⟩;rw[aN]at ks hR⊢;have a6:=vi R;have e1:tO ⟨D,H,U⟩=[.arr (jo D),.arr (kI H),.arr (bL U)]:=rfl;rw[e1];rw[cO]at ks⊢;obtain⟨n,hn⟩:∃n,R.length=n:=⟨_,rfl⟩;rw[hn]at a6 hR⊢;obtain⟨Y1,ad⟩:∃Y,H.all (gR n)=Y:=⟨_,rfl⟩;obtain⟨Y2,ag⟩:∃Y,allI (fK m U) U=Y:=⟨_,rfl⟩;obtain⟨Y3,al⟩:∃Y,(decide (H.length<=8)&&decide (U.length<=32))=Y:=⟨_,rfl⟩
 have e0:mZ m n ⟨D,H,U⟩=((bE (kU n D) 0 (D.drop 0)&&(Y1&&Y2))&&Y3):=by
  rw[<- ad,<- ag,<- al];rfl
 rw[e0];refine Cl.aE rfl Tryz.func150 rfl rfl rfl ?_
 repeat'(first
|(with_reducible first|apply aa.seq|apply aa.block)
|((with_reducible apply aa.text);(try case hm=>exact rfl))
|(with_reducible apply ab.af)
|((with_reducible apply ab.u0);(case hx=>first
|(exact dy ks)
|exact ac))
|fail)
 rw[hn];apply aa.aM
 case ho=>exact rfl
 case hp=>exact rfl
 case hl=>exact rfl
 case hs=>exact slt
 refine aI.ind (fun q:Nat=>[(6,.t (.int .i64 (q:Int)))]) (fun q=>q<=D.length/\bE (kU n D) 0 (D.drop 0)=bE (kU n D) q (D.drop q)) (fun q=>D.length - q) 0 rfl ⟨by omega,rfl⟩ (fun q z=>?_);obtain⟨h1,h2⟩:=z;rw[h2];rcases Nat.lt_or_ge q D.length with h3|h3
 ·
  obtain⟨t,ht⟩:=av h3;have hc:=tk ht;have kf:=zf t.add;have v:=lH (p:=kU n D) ht;have y:=lI (p:=kU n D) ht;rw[Ck]at v y;obtain⟨bf,aQ⟩:∃b,eF t.add 1000000000=b:=⟨_,rfl⟩;rw[aQ]at kf v y
  cases q with
  |zero=>
   cases bf with
   |false=>
    rw[v (fun h=>by cases h.2.2.2)]
    repeat'(first
|(with_reducible first|apply aa.seq|apply aa.block)
|((with_reducible apply aa.text);(try case hm=>exact rfl))
|((with_reducible apply aa.drawn);(case hm=>exact rfl))
|(with_reducible first|apply aa.skip|apply aa.ret|apply ai|apply ay|apply aO)
|((with_reducible apply aa.am);(case hc=>exact rfl))
|((with_reducible apply ab.ao);(case hp=>exact ae))
|((with_reducible apply ab.aU)<;>intro z)
|((with_reducible apply ab.aV);(case hp=>exact ae))
|((with_reducible apply ab.a_)<;>intro z)
|(with_reducible apply ab.af)
|((with_reducible apply ab.gf);(case hW=>exact rfl))
|((with_reducible apply ab.au);(case hW=>exact rfl);(case hx=>first
|(exact aj kf)
|exact ac))
|((with_reducible apply ab.u0);(case hx=>exact ac))
|fail)
    all_goals exact⟨.inr rfl,rfl⟩
   |true=>
    repeat'(first
|(with_reducible first|apply aa.seq|apply aa.block)
|((with_reducible apply aa.text);(try case hm=>exact rfl))
|((with_reducible apply aa.drawn);(case hm=>exact rfl))
|(with_reducible first|apply aa.skip|apply aa.ret|apply ai|apply ay|apply aG|apply aO)
|((with_reducible apply aa.am);(case hc=>exact rfl))
|((with_reducible apply aa.ak);(case hc=>exact rfl))
|((with_reducible apply ab.ao);(case hp=>exact ae))
|((with_reducible apply ab.aU)<;>intro z)
|((with_reducible apply ab.aV);(case hp=>exact ae))
|((with_reducible apply ab.a_)<;>intro z)
|(with_reducible apply ab.af)
|((with_reducible apply ab.gf);(case hW=>exact rfl))
|((with_reducible apply ab.au);(case hW=>exact rfl);(case hx=>first
|(exact aj kf)
|exact ac))
|((with_reducible apply ab.u0);(case hx=>exact ac))
|fail)
    all_goals first
     |exact aS (.inr rfl) rfl (by rw[v (fun h=>by obtain⟨_,_,_,_⟩:=h;omega)];rfl)
     |exact⟨0+1,rfl,rfl,⟨by omega,y ⟨by omega,.inl rfl,by omega,rfl⟩⟩,by omega⟩
  |succ k=>
   obtain⟨u,V⟩:=av (xs:=D) (k:=k) (by omega);have aY:=tk V;have bb:(jo D)[((k+1:Nat) - 1:Int).toNat]?=some [.int .i64 u.cell,.int .i64 u.add]:=by rw[show((k+1:Nat) - 1:Int).toNat=k by omega];exact aY
   have a1:D.getD (k+1 - 1) ⟨0,0⟩=u:=by rw[Nat.add_sub_cancel,List.getD_eq_getElem?_getD,V];rfl
   rw[a1]at v y
   cases bf with
   |false=>
    rw[v (fun h=>by cases h.2.2.2)]
    repeat'(first
|(with_reducible first|apply aa.seq|apply aa.block)
|((with_reducible apply aa.text);(try case hm=>exact rfl))
|((with_reducible apply aa.drawn);(case hm=>exact rfl))
|(with_reducible first|apply aa.skip|apply aa.ret|apply ai|apply ay|apply aO)
|((with_reducible apply aa.am);(case hc=>exact rfl))
|((with_reducible apply ab.ao);(case hp=>exact ae))
|((with_reducible apply ab.aU)<;>intro z)
|((with_reducible apply ab.bh);(case hp=>exact ae))
|((with_reducible apply ab.a_)<;>intro z)
|(with_reducible apply ab.af)
|((with_reducible apply ab.gf);(case hW=>exact rfl))
|((with_reducible apply ab.au);(case hW=>exact rfl);(case hx=>first
|(exact aj kf)
|exact ac))
|((with_reducible apply ab.u0);(case hx=>exact ac))
|fail)
    all_goals exact⟨.inr rfl,rfl⟩
   |true=>
    repeat'(first
|(with_reducible first|apply aa.seq|apply aa.block)
|((with_reducible apply aa.text);(try case hm=>exact rfl))
|((with_reducible apply aa.drawn);(case hm=>exact rfl))
|(with_reducible first|apply aa.skip|apply aa.ret|apply ai|apply ay|apply aG|apply aO)
|((with_reducible apply aa.am);(case hc=>exact rfl))
|((with_reducible apply aa.ak);(case hc=>exact rfl))
|((with_reducible apply ab.ao);(case hp=>exact ae))
|((with_reducible apply ab.aU)<;>intro z)
|((with_reducible apply ab.bh);(case hp=>exact ae))
|((with_reducible apply ab.a_)<;>intro z)
|(with_reducible apply ab.af)
|((with_reducible apply ab.gf);(case hW=>exact rfl))
|((with_reducible apply ab.au);(case hW=>exact rfl);(case hx=>first
|(exact aj kf)
|exact ac))
|((with_reducible apply ab.u0);(case hx=>exact ac))
|fail)
    all_goals first
     |exact aS (.inr rfl) rfl (by rw[v (fun h=>by obtain⟨_,_,_,_⟩:=h;omega)];rfl)
     |exact⟨k+1+1,rfl,rfl,⟨by omega,y ⟨by omega,.inr (by omega),by omega,rfl⟩⟩,by omega⟩
 ·
  rw[jV h3,Bool.true_and,<- ad];have e2:H.all (gR n)=(H.drop 0).all (gR n):=rfl;rw[e2]
  repeat'(first
|(with_reducible first|apply aa.seq|apply aa.block)
|((with_reducible apply aa.text);(try case hm=>exact rfl))
|(with_reducible first|apply aa.exit|apply ai|apply aA|apply az)
|((with_reducible apply aa.ak);(case hc=>exact rfl))
|((with_reducible apply ab.aw);(case hp=>exact ae))
|(with_reducible apply ab.af)
|((with_reducible apply ab.u0);(case hx=>exact ac))
|fail)
  apply aa.aM
  case ho=>exact rfl
  case hp=>exact rfl
  case hl=>exact rfl
  case hs=>exact slt
  refine aI.ind (fun q:Nat=>[(8,.t (.int .i64 (q:Int)))]) (fun q=>q<=H.length/\(H.drop 0).all (gR n)=(H.drop q).all (gR n)) (fun q=>H.length - q) 0 rfl ⟨by omega,rfl⟩ (fun q z=>?_);obtain⟨g1,g2⟩:=z;rw[g2];rcases Nat.lt_or_ge q H.length with g3|g3
  ·
   obtain⟨r,hr⟩:=av g3;have bl:=G_ hr;have kr:=zK (n:=(n:Int)) (r:=r) (by have:=x3 r (List.mem_of_getElem? hr);omega);have aJ:=ib (gR n) hr;obtain⟨b,hb⟩:∃b,gR n r=b:=⟨_,rfl⟩;rw[hb]at kr aJ;rw[aJ]
   cases b with
   |false=>
    repeat'(first
|(with_reducible first|apply aa.seq|apply aa.block)
|((with_reducible apply aa.text);(try case hm=>exact rfl))
|(with_reducible first|apply aa.skip|apply aa.ret|apply ai|apply ay|apply aO)
|((with_reducible apply aa.am);(case hc=>exact rfl))
|((with_reducible apply ab.ao);(case hp=>exact ae))
|(with_reducible apply ab.af)
|((with_reducible apply ab.u0);(case hx=>first
|(exact aj kr)
|exact ac))
|fail)
    exact⟨.inr rfl,rfl⟩
   |true=>
    repeat'(first
|(with_reducible first|apply aa.seq|apply aa.block)
|((with_reducible apply aa.text);(try case hm=>exact rfl))
|(with_reducible first|apply aa.skip|apply ai|apply aG)
|((with_reducible apply aa.am);(case hc=>exact rfl))
|((with_reducible apply aa.ak);(case hc=>exact rfl))
|((with_reducible apply ab.ao);(case hp=>exact ae))
|(with_reducible apply ab.af)
|((with_reducible apply ab.u0);(case hx=>first
|(exact aj kr)
|exact ac))
|fail)
    exact⟨q+1,rfl,rfl,⟨by omega,rfl⟩,by omega⟩
  ·
   rw[gv _ g3,Bool.true_and,<- ag];have e3:allI (fK m U) U=bE (fK m U) 0 (U.drop 0):=rfl;rw[e3]
   repeat'(first
|(with_reducible first|apply aa.seq|apply aa.block)
|((with_reducible apply aa.text);(try case hm=>exact rfl))
|(with_reducible first|apply aa.exit|apply ai|apply aA|apply az)
|((with_reducible apply aa.ak);(case hc=>exact rfl))
|((with_reducible apply ab.aw);(case hp=>exact ae))
|(with_reducible apply ab.af)
|((with_reducible apply ab.u0);(case hx=>exact ac))
|fail)
   apply aa.aM
   case ho=>exact rfl
   case hp=>exact rfl
   case hl=>exact rfl
   case hs=>exact slt
   refine aI.ind (fun q:Nat=>[(9,.t (.int .i64 (q:Int)))]) (fun q=>q<=U.length/\bE (fK m U) 0 (U.drop 0)=bE (fK m U) q (U.drop q)) (fun q=>U.length - q) 0 rfl ⟨by omega,rfl⟩ (fun q z=>?_);obtain⟨k1,k2⟩:=z;rw[k2];rcases Nat.lt_or_ge q U.length with k3|k3
   ·
    obtain⟨u,V⟩:=av k3;have bM:=jS V;have Z:=a7 u.cell (x5 u (List.mem_of_getElem? V));have v:=lH (p:=fK m U) V;have y:=lI (p:=fK m U) V
    cases G:iE m.aq m.tables false u.cell with
    |none=>
     rw[G]at Z;rw[v (by rw[IH G];decide)]
     repeat'(first
|(with_reducible first|apply aa.seq|apply aa.block)
|((with_reducible apply aa.text);(try case hm=>exact rfl))
|((with_reducible apply aa.drawn);(case hm=>exact rfl))
|(with_reducible first|apply aa.skip|apply aa.ret|apply ai|apply ay|apply aO)
|((with_reducible apply aa.am);(case hc=>exact rfl))
|((with_reducible apply ab.ao);(case hp=>exact ae))
|(with_reducible apply ab.af)
|((with_reducible apply ab.gf);(case hW=>exact rfl))
|((with_reducible apply ab.u0);(case hx=>first
|(exact aj Z)
|exact ac))
|fail)
     exact⟨.inr rfl,rfl⟩
    |some jt=>
     obtain⟨j,t⟩:=jt;rw[G]at Z;obtain⟨_,aL,_⟩:=Ig G;have bq:=fZ aL;have bc:=aC aL;have I:=G3 t.kind
     cases J:jM t.kind with
     |true=>
      rw[J]at I;rw[IJ G J]at v y
      cases q with
      |zero=>
       repeat'(first
|(with_reducible first|apply aa.seq|apply aa.block)
|((with_reducible apply aa.text);(try case hm=>exact rfl))
|((with_reducible apply aa.drawn);(case hm=>exact rfl))
|(with_reducible first|apply aa.skip|apply aa.ret|apply ai|apply ay|apply aG|apply aO)
|((with_reducible apply aa.am);(case hc=>exact rfl))
|((with_reducible apply aa.ak);(case hc=>exact rfl))
|((with_reducible apply ab.ao);(case hp=>exact ae))
|((with_reducible apply ab.aV);(case hp=>exact ae))
|((with_reducible apply ab.ed)<;>intro z)
|(with_reducible apply ab.af)
|((with_reducible apply ab.gf);(case hW=>exact rfl))
|((with_reducible apply ab.au);(case hW=>exact rfl);(case hx=>exact ac))
|((with_reducible apply ab.u0);(case hx=>first
|(exact dy Z)
|(exact aj I)
|exact ac))
|fail)
       all_goals first
        |exact aS (.inr rfl) rfl (by rw[v (by omega)];rfl)
        |exact⟨0+1,rfl,rfl,⟨by omega,y (by omega)⟩,by omega⟩
      |succ k=>
       obtain⟨w,hw⟩:=av (xs:=U) (k:=k) (by omega);have O:=jS hw;have an:(bL U)[((k+1:Nat) - 1:Int).toNat]?=some [.int .i64 w.kind,.int .i64 w.cell,.int .i64 w.value]:=by rw[show((k+1:Nat) - 1:Int).toNat=k by omega];exact O
       have Q:U.getD (k+1 - 1) ⟨0,0,0⟩=w:=by rw[Nat.add_sub_cancel,List.getD_eq_getElem?_getD,hw];rfl
       rw[Q]at v y
       repeat'(first
|(with_reducible first|apply aa.seq|apply aa.block)
|((with_reducible apply aa.text);(try case hm=>exact rfl))
|((with_reducible apply aa.drawn);(case hm=>exact rfl))
|(with_reducible first|apply aa.skip|apply aa.ret|apply ai|apply ay|apply aG|apply aO)
|((with_reducible apply aa.am);(case hc=>exact rfl))
|((with_reducible apply aa.ak);(case hc=>exact rfl))
|((with_reducible apply ab.ao);(case hp=>exact ae))
|((with_reducible apply ab.bh);(case hp=>exact ae))
|((with_reducible apply ab.a_)<;>intro z)
|((with_reducible apply ab.ed)<;>intro z)
|(with_reducible apply ab.af)
|((with_reducible apply ab.gf);(case hW=>exact rfl))
|((with_reducible apply ab.au);(case hW=>exact rfl);(case hx=>exact ac))
|((with_reducible apply ab.u0);(case hx=>first
|(exact dy Z)
|(exact aj I)
|exact ac))
|fail)
       all_goals first
        |exact aS (.inr rfl) rfl (by rw[v (by omega)];rfl)
        |exact⟨k+1+1,rfl,rfl,⟨by omega,y (by omega)⟩,by omega⟩
     |false=>
      rw[J]at I;rw[II G J]at v y
      cases q with
      |zero=>
       repeat'(first
|(with_reducible first|apply aa.seq|apply aa.block)
|((with_reducible apply aa.text);(try case hm=>exact rfl))
|((with_reducible apply aa.drawn);(case hm=>exact rfl))
|(with_reducible first|apply aa.skip|apply aa.ret|apply ai|apply ay|apply aG|apply aO)
|((with_reducible apply aa.am);(case hc=>exact rfl))
|((with_reducible apply aa.ak);(case hc=>exact rfl))
|((with_reducible apply ab.ao);(case hp=>exact ae))
|((with_reducible apply ab.aV);(case hp=>exact ae))
|((with_reducible apply ab.a_)<;>intro z)
|((with_reducible apply ab.ed)<;>intro z)
|(with_reducible apply ab.af)
|((with_reducible apply ab.gf);(case hW=>exact rfl))
|((with_reducible apply ab.au);(case hW=>exact rfl);(case hx=>exact ac))
|((with_reducible apply ab.u0);(case hx=>first
|(exact dy Z)
|(exact aj I)
|exact ac))
|fail)
       all_goals first
        |exact aS (.inr rfl) rfl (by rw[v (by omega)];rfl)
        |exact⟨0+1,rfl,rfl,⟨by omega,y (by omega)⟩,by omega⟩
      |succ k=>
       obtain⟨w,hw⟩:=av (xs:=U) (k:=k) (by omega);have O:=jS hw;have an:(bL U)[((k+1:Nat) - 1:Int).toNat]?=some [.int .i64 w.kind,.int .i64 w.cell,.int .i64 w.value]:=by rw[show((k+1:Nat) - 1:Int).toNat=k by omega];exact O
       have Q:U.getD (k+1 - 1) ⟨0,0,0⟩=w:=by rw[Nat.add_sub_cancel,List.getD_eq_getElem?_getD,hw];rfl
       rw[Q]at v y
       repeat'(first
|(with_reducible first|apply aa.seq|apply aa.block)
|((with_reducible apply aa.text);(try case hm=>exact rfl))
|((with_reducible apply aa.drawn);(case hm=>exact rfl))
|(with_reducible first|apply aa.skip|apply aa.ret|apply ai|apply ay|apply aG|apply aO)
|((with_reducible apply aa.am);(case hc=>exact rfl))
|((with_reducible apply aa.ak);(case hc=>exact rfl))
|((with_reducible apply ab.ao);(case hp=>exact ae))
|((with_reducible apply ab.bh);(case hp=>exact ae))
|((with_reducible apply ab.a_)<;>intro z)
|((with_reducible apply ab.ed)<;>intro z)
|(with_reducible apply ab.af)
|((with_reducible apply ab.gf);(case hW=>exact rfl))
|((with_reducible apply ab.au);(case hW=>exact rfl);(case hx=>exact ac))
|((with_reducible apply ab.u0);(case hx=>first
|(exact dy Z)
|(exact aj I)
|exact ac))
|fail)
       all_goals first
        |exact aS (.inr rfl) rfl (by rw[v (by omega)];rfl)
        |exact⟨k+1+1,rfl,rfl,⟨by omega,y (by omega)⟩,by omega⟩
   ·
    rw[jV k3,Bool.true_and,<- al]
    repeat'(first
|(with_reducible apply aa.seq)
|((with_reducible apply aa.text);(try case hm=>exact rfl))
|(with_reducible first|apply aa.exit|apply aa.ret|apply ai|apply aA|apply az)
|((with_reducible apply aa.ak);(case hc=>exact rfl))
|((with_reducible apply ab.aw);(case hp=>exact ae))
|((with_reducible apply ab.aU)<;>intro z)
|((with_reducible apply ab.a_)<;>intro z)
|(with_reducible apply ab.af)
|((with_reducible apply ab.gf);(case hW=>exact rfl))
|((with_reducible apply ab.au);(case hW=>exact rfl);(case hx=>exact ac))
|((with_reducible apply ab.u0);(case hx=>exact ac))
|fail)
    all_goals(refine aS (.inr rfl) rfl ?_;simp;try omega)
end Go.Proofs.YtgbfedgghjcdcaaGreatDoor
