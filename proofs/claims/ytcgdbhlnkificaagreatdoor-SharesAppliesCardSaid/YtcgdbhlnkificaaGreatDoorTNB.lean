/- The reference's models,part by part,as contracts:. No condition. -/
import Derived.Test.YtcgdbhlnkificaaGreatDoorTNC
set_option linter.all false
namespace Go.Proofs.YtcgdbhlnkificaaGreatDoor
open Go.RowKit
set_option maxRecDepth 100000
set_option maxHeartbeats 16000000
def ng:eZ aj.P 169=some (145,2):=by kernel_rfl
def Ii{m:Md}{n i:Nat}{c:Cn}:jq m n i c=true↔0<=c.j_/\c.j_ <m.bH.length/\((c.kind=0/\c.first=0/\c.size=0/\cI n c.row=true)\/(2*n<=i/\c.kind=1/\jA m c=true)):=by
 unfold jq;simp only[Bool.and_eq_true,Bool.or_eq_true,decide_eq_true_eq,and_assoc]
def Ms{cs:List Cn}{i:Nat}{r:Int×Int}{A B:Cn}(u:cs[2*i]?=some A)(v:cs[2*i+1]?=some B):mD cs i r=(decide (A.row=nF i r)&&decide (B.row=pZ i r)):=by
 unfold mD;rw[List.getD_eq_getElem?_getD,List.getD_eq_getElem?_getD,u,v];rfl
def M9{m:Md}(hm:bx m)(hv:bJ m.ao m.tables=true):Cl aj 117 [.t (bN m)] [] (.t (.bool (li m (bW m.ao m.tables true)))) []:=by
 have aG:=qE m.cons;have aM:=ny m.bH;have aR:=hm.cons;have y:=hm.bt;have aT:=hm.bH;have ks:=ER hm;have kg:=fun(c:Cn) (I:c∈m.cons)=>Ns (c:=c) hm hv (by have:=y c I;omega);have hR:=EY m.ao m.tables true;have V:=fun(r:Int×Int) (U:r∈bW m.ao m.tables true)=>NL U;obtain⟨R,ax⟩:∃R,bW m.ao m.tables true=R:=⟨_,rfl⟩;rw[ax]at ks hR V⊢;have aN:=lQ R;rw[aZ]at ks kg⊢;refine Cl.ap rfl Tryz.func117 rfl rfl rfl ?_;by_cases h0:2*R.length<=m.cons.length/\m.cons.length<=512
 ·
  obtain⟨ag,al⟩:=h0;obtain⟨Y,hY⟩:∃Y,allI (jq m R.length) m.cons=Y:=⟨_,rfl⟩
  have e0:li m R=(aK (mD m.cons) 0 (R.drop 0)&&Y):=by
   unfold li;rw[decide_eq_true ag,decide_eq_true al,hY];rfl
  rw[e0];refine aq ?_;refine az.c8 (fun q:Nat=>[(4,.t (.int .i64 (q:Int)))]) (fun _=>[.box false 30 ((gm m).map .t),.row false false 2 (bO R)]) (fun q=>q<=R.length/\aK (mD m.cons) 0 (R.drop 0)=aK (mD m.cons) q (R.drop q)) (fun q=>R.length - q) 0 rfl rfl ⟨by omega,rfl⟩ (fun q J=>?_);obtain⟨h1,h2⟩:=J;rw[h2];rcases Nat.lt_or_ge q R.length with h3|h3
  ·
   obtain⟨r,U⟩:=am h3;have aY:=Rx U;obtain⟨b1,b2,b3⟩:=V r (List.mem_of_getElem? U);obtain⟨A,hA⟩:=am (xs:=m.cons) (k:=2*q) (by omega);obtain⟨B,hB⟩:=am (xs:=m.cons) (k:=2*q+1) (by omega);have an:=ph hA;have au:=ph hB;rw[show 2*q=(2*(q:Int)).toNat by omega]at an;rw[show 2*q+1=(2*(q:Int)+1).toNat by omega]at au;have aA:=Ms (r:=r) hA hB;have u:=dl (p:=mD m.cons) U;have v:=dm (p:=mD m.cons) U;rw[aA]at u v;have ad:nF q r=⟨[⟨(q:Int),-1⟩],0 - r.1⟩:=by unfold nF;rw[Int.zero_sub]
   have ab:pZ q r=⟨[⟨(q:Int),1⟩],r.2⟩:=rfl;rw[ad,ab]at u v;have k1:=Fe (A:=A.row) (B:=⟨[⟨(q:Int),-1⟩],0 - r.1⟩) (by have:=y A (List.mem_of_getElem? hA);omega) (by simp);have k2:=Fe (A:=B.row) (B:=⟨[⟨(q:Int),1⟩],r.2⟩) (by have:=y B (List.mem_of_getElem? hB);omega) (by simp);obtain⟨p1,D⟩:∃p,decide (A.row=⟨[⟨(q:Int),-1⟩],0 - r.1⟩)=p:=⟨_,rfl⟩;obtain⟨p2,G⟩:∃p,decide (B.row=⟨[⟨(q:Int),1⟩],r.2⟩)=p:=⟨_,rfl⟩;rw[D]at k1 u v;rw[G]at k2 u v
   cases p1 with
   |false=>
    rw[u (by simp),Bool.false_and]
    repeat'(first
|((with_reducible apply aa.aF);(case hp=>exact ak))
|(refine aw ?_)
|((with_reducible apply aa.u0);(case hx=>first
|((with_reducible apply af.lK);(case hx=>exact rfl);(case h=>omega))
|((with_reducible apply af.mul);(case hx|hy=>exact rfl);(case h=>omega))
|(exact ai k1)
|exact ae))
|fail)
    exact⟨.inr rfl,rfl⟩
   |true=>
    cases p2 with
    |false=>
     rw[u (by simp),Bool.false_and]
     repeat'(first
|((with_reducible apply aa.aF);(case hp=>exact ak))
|(refine aw ?_)
|((with_reducible apply aa.av);(case hW=>exact rfl);(case hx=>first
|((with_reducible apply af.mul);(case hx|hy=>exact rfl);(case h=>omega))
|(exact ai k2)
|exact ae))
|((with_reducible apply aa.u0);(case hx=>first
|((with_reducible apply af.lK);(case hx=>exact rfl);(case h=>omega))
|((with_reducible apply af.mul);(case hx|hy=>exact rfl);(case h=>omega))
|(exact ai k1)
|exact ae))
|fail)
     exact⟨.inr rfl,rfl⟩
    |true=>
     repeat'(first
|((with_reducible apply aa.aF);(case hp=>exact ak))
|(refine aw ?_)
|((with_reducible apply aa.av);(case hW=>exact rfl);(case hx=>first
|((with_reducible apply af.mul);(case hx|hy=>exact rfl);(case h=>omega))
|(exact ai k2)
|exact ae))
|((with_reducible apply aa.u0);(case hx=>first
|((with_reducible apply af.lK);(case hx=>exact rfl);(case h=>omega))
|((with_reducible apply af.mul);(case hx|hy=>exact rfl);(case h=>omega))
|(exact ai k1)
|exact ae))
|fail)
     exact⟨q+1,rfl,rfl,⟨by omega,v rfl⟩,by omega⟩
  ·
   rw[cL h3,Bool.true_and,<- hY];have e1:allI (jq m R.length) m.cons=aK (jq m R.length) 0 (m.cons.drop 0):=rfl;rw[e1];refine aq ?_;refine az.c8 (fun q:Nat=>[(7,.t (.int .i64 (q:Int)))]) (fun _=>[.box false 30 ((gm m).map .t),.row false false 2 (bO R)]) (fun q=>q<=m.cons.length/\aK (jq m R.length) 0 (m.cons.drop 0)=aK (jq m R.length) q (m.cons.drop q)) (fun q=>m.cons.length - q) 0 rfl rfl ⟨by omega,rfl⟩ (fun q J=>?_);obtain⟨g1,g2⟩:=J;rw[g2];rcases Nat.lt_or_ge q m.cons.length with g3|g3
   ·
    obtain⟨c,I⟩:=am g3;have aB:=ph I;have z:=List.mem_of_getElem? I;have kr:=Fc (n:=(R.length:Int)) (r:=c.row) (by have:=y c z;omega);have Z:=kg c z;have u:=dl (p:=jq m R.length) I;have v:=dm (p:=jq m R.length) I;rw[Ii]at u v;obtain⟨p1,D⟩:∃p,cI R.length c.row=p:=⟨_,rfl⟩;obtain⟨p2,G⟩:∃p,jA m c=p:=⟨_,rfl⟩;rw[D]at kr u v;rw[G]at Z u v;cases p1 <;>cases p2 <;>simp only[and_true,Bool.false_eq_true,and_false,or_false,false_or]at u v
    all_goals
     repeat'(first
|(refine a8 ?_)
|((with_reducible apply aa.aX)<;>intro J)
|((with_reducible apply aa.bi)<;>intro J)
|(refine aw ?_)
|((with_reducible apply aa.av);(case hW=>exact rfl);(case hx=>first
|((with_reducible apply af.mul);(case hx|hy=>exact rfl);(case h=>omega))
|(exact ai kr)
|(exact ai Z)
|exact ae))
|((with_reducible apply aa.u0);(case hx=>exact ae))
|fail)
     all_goals first
      |exact ba (.inr rfl) rfl (by rw[u (by first|omega|(intro h;exact h))])
      |exact⟨q+1,rfl,rfl,⟨by omega,v (by omega)⟩,by omega⟩
   ·
    rw[cL g3];exact ah
 ·
  have e0:li m R=false:=by
   rw[<- Bool.not_eq_true];unfold li;simp only[Bool.and_eq_true,decide_eq_true_eq];exact fun h=>h0 h.1
  rw[e0]
  repeat'(first
|((with_reducible apply aa.cj);(case hp=>exact ak))
|((with_reducible apply aa.aX)<;>intro J)
|(refine aw ?_)
|((with_reducible apply aa.av);(case hW=>exact rfl);(case hx=>exact ae))
|((with_reducible apply aa.u0);(case hx=>first
|((with_reducible apply af.mul);(case hx|hy=>exact rfl);(case h=>omega))
|(exact iG ks)
|exact ae))
|fail)
  all_goals first
   |exact⟨.inr rfl,rfl⟩
   |(exfalso;omega)
def HY{n:Int}{l:List bP}{i:Nat}{t:bP}:eX n l i t=true↔(0<=t.cell/\t.cell <n)/\(i=0\/(l.getD (i - 1) ⟨0,0⟩).cell <t.cell)/\t.add≠0/\cA t.add 1000000000=true:=by
 unfold eX;simp only[Bool.and_eq_true,Bool.or_eq_true,Bool.not_eq_true',decide_eq_true_eq,decide_eq_false_iff_not,ne_eq]
def Qe{m:Md}{l:List cw}{i:Nat}{u:cw}(h:fe m.ao m.tables false u.cell=none):gQ m l i u=false:=by unfold gQ;rw[h]
def Qg{m:Md}{l:List cw}{i j:Nat}{u:cw}{t:Tb}(h:fe m.ao m.tables false u.cell=some (j,t))(hs:oJ t.kind=true):gQ m l i u=true↔(i=0\/(l.getD (i - 1) ⟨0,0,0⟩).cell <u.cell)/\(u.kind=0\/u.kind=1)/\u.value=0:=by
 unfold gQ;rw[h];simp only[nJ,hs,if_true,Bool.and_eq_true,Bool.or_eq_true,decide_eq_true_eq]
def Qf{m:Md}{l:List cw}{i j:Nat}{u:cw}{t:Tb}(h:fe m.ao m.tables false u.cell=some (j,t))(hs:oJ t.kind=false):gQ m l i u=true↔(i=0\/(l.getD (i - 1) ⟨0,0,0⟩).cell <u.cell)/\u.kind=2/\t.lo<=u.value/\u.value<=t.hi:=by
 unfold gQ;rw[h];simp only[nJ,hs,Bool.false_eq_true,if_false,Bool.and_eq_true,Bool.or_eq_true,decide_eq_true_eq]
structure jj (x:k8):Prop where
 delta:x.delta.length<=17592186044416
 hold:x.hold.length<=17592186044416
 sV:∀r∈x.hold,r.bt.length<=17592186044416
 b7:x.b7.length<=17592186044416
 cell:∀u∈x.b7,u.cell<=9223372036854775807
theorem bx.eff{m:Md}(hm:bx m):∀a∈m.ax,jj a.eff:=fun a u=>⟨hm.delta a u,hm.hold a u,hm.sV a u,hm.b7 a u,hm.Qb a u⟩
def Ni{m:Md}{x:k8}(hm:bx m)(hx:jj x):Cl aj 165 [.t (bN m),.t (.agg (qG x))] [] (.t (.bool (ll m (bW m.ao m.tables true).length x))) []:=by
 obtain⟨D,H,U⟩:=x;obtain⟨x1,x2,x3,x4,x5⟩:=hx;have x1:D.length<=17592186044416:=x1;have x2:H.length<=17592186044416:=x2;have x3:∀r∈H,r.bt.length<=17592186044416:=x3;have x4:U.length<=17592186044416:=x4;have x5:∀u∈U,u.cell<=9223372036854775807:=x5;have aY:=uG D;have a1:=wi H;have bb:=AL U;have a6:=fT m.tables;have ks:=ER hm;have hR:=EY m.ao m.tables true;have aN:=fun c hc=>N3 (S:=m.ao) (L:=m.tables) (s:=false) (c:=c) (by have:=hm.ao;omega) (by have:=hm.tables;omega) (fun t ht=>by have:=hm.au t ht;omega) hc;obtain⟨R,aA⟩:∃R,bW m.ao m.tables true=R:=⟨_,rfl⟩;rw[aA]at ks hR⊢;have aM:=lQ R;have e1:qG ⟨D,H,U⟩=[.arr (iV D),.arr (iK H),.arr (iO U)]:=rfl;rw[e1];rw[aZ]at ks⊢;obtain⟨n,hn⟩:∃n,R.length=n:=⟨_,rfl⟩;rw[hn]at aM hR⊢;obtain⟨Y1,ab⟩:∃Y,H.all (cI n)=Y:=⟨_,rfl⟩;obtain⟨Y2,ad⟩:∃Y,allI (gQ m U) U=Y:=⟨_,rfl⟩;obtain⟨Y3,ag⟩:∃Y,(decide (H.length<=8)&&decide (U.length<=32))=Y:=⟨_,rfl⟩
 have e0:ll m n ⟨D,H,U⟩=((aK (eX n D) 0 (D.drop 0)&&(Y1&&Y2))&&Y3):=by
  rw[<- ab,<- ad,<- ag];rfl
 rw[e0];refine Cl.ap rfl Tryz.func165 rfl rfl rfl ?_
 repeat'(first
|(refine aw ?_)
|((with_reducible apply aa.u0);(case hx=>first
|(exact iG ks)
|exact ae))
|fail)
 rw[hn];apply ac.cR
 case ho=>exact rfl
 case hp=>exact rfl
 case hl=>exact rfl
 case hs=>exact slt
 refine az.ind (fun q:Nat=>[(6,.t (.int .i64 (q:Int)))]) (fun q=>q<=D.length/\aK (eX n D) 0 (D.drop 0)=aK (eX n D) q (D.drop q)) (fun q=>D.length - q) 0 rfl ⟨by omega,rfl⟩ (fun q z=>?_);obtain⟨h1,h2⟩:=z;rw[h2];rcases Nat.lt_or_ge q D.length with h3|h3
 ·
  obtain⟨t,ht⟩:=am h3;have hc:=su ht;have kf:=EG t.add;have v:=dl (p:=eX n D) ht;have y:=dm (p:=eX n D) ht;rw[HY]at v y;obtain⟨bf,aB⟩:∃b,cA t.add 1000000000=b:=⟨_,rfl⟩;rw[aB]at kf v y
  cases q with
  |zero=>
   cases bf with
   |false=>
    rw[v (fun h=>by cases h.2.2.2)];exact ah
   |true=>
    repeat'(first
|(refine a8 ?_)
|((with_reducible apply aa.aX)<;>intro z)
|((with_reducible apply aa.bi)<;>intro z)
|(refine aw ?_)
|((with_reducible apply aa.av);(case hW=>exact rfl);(case hx=>first
|(exact ai kf)
|exact ae))
|((with_reducible apply aa.u0);(case hx=>exact ae))
|fail)
    all_goals first
     |exact ba (.inr rfl) rfl (by rw[v (fun h=>by obtain⟨_,_,_,_⟩:=h;omega)];rfl)
     |exact⟨0+1,rfl,rfl,⟨by omega,y ⟨by omega,.inl rfl,by omega,rfl⟩⟩,by omega⟩
  |succ k=>
   obtain⟨u,hu⟩:=am (xs:=D) (k:=k) (by omega);have aF:=su hu;have aR:(iV D)[((k+1:Nat) - 1:Int).toNat]?=some [.int .i64 u.cell,.int .i64 u.add]:=by rw[show((k+1:Nat) - 1:Int).toNat=k by omega];exact aF
   have aG:D.getD (k+1 - 1) ⟨0,0⟩=u:=by rw[Nat.add_sub_cancel,List.getD_eq_getElem?_getD,hu];rfl
   rw[aG]at v y
   cases bf with
   |false=>
    rw[v (fun h=>by cases h.2.2.2)];exact ah
   |true=>
    repeat'(first
|(refine a8 ?_)
|((with_reducible apply aa.aX)<;>intro z)
|((with_reducible apply aa.bi)<;>intro z)
|(refine aw ?_)
|((with_reducible apply aa.av);(case hW=>exact rfl);(case hx=>first
|(exact ai kf)
|exact ae))
|((with_reducible apply aa.u0);(case hx=>exact ae))
|fail)
    all_goals first
     |exact ba (.inr rfl) rfl (by rw[v (fun h=>by obtain⟨_,_,_,_⟩:=h;omega)];rfl)
     |exact⟨k+1+1,rfl,rfl,⟨by omega,y ⟨by omega,.inr (by omega),by omega,rfl⟩⟩,by omega⟩
 ·
  rw[cL h3,Bool.true_and,<- ab];have e2:H.all (cI n)=(H.drop 0).all (cI n):=rfl;rw[e2];refine aq ?_;refine az.ind (fun q:Nat=>[(8,.t (.int .i64 (q:Int)))]) (fun q=>q<=H.length/\(H.drop 0).all (cI n)=(H.drop q).all (cI n)) (fun q=>H.length - q) 0 rfl ⟨by omega,rfl⟩ (fun q z=>?_);obtain⟨g1,g2⟩:=z;rw[g2];rcases Nat.lt_or_ge q H.length with g3|g3
  ·
   obtain⟨r,hr⟩:=am g3;have bd:=Fu hr;have kr:=Fc (n:=(n:Int)) (r:=r) (by have:=x3 r (List.mem_of_getElem? hr);omega);have an:=iT (cI n) hr;obtain⟨b,hb⟩:∃b,cI n r=b:=⟨_,rfl⟩;rw[hb]at kr an;rw[an]
   cases b with
   |false=>
    exact ah
   |true=>
    exact ah
  ·
   rw[gT _ g3,Bool.true_and,<- ad];have e3:allI (gQ m U) U=aK (gQ m U) 0 (U.drop 0):=rfl;rw[e3];refine aq ?_;refine az.ind (fun q:Nat=>[(9,.t (.int .i64 (q:Int)))]) (fun q=>q<=U.length/\aK (gQ m U) 0 (U.drop 0)=aK (gQ m U) q (U.drop q)) (fun q=>U.length - q) 0 rfl ⟨by omega,rfl⟩ (fun q z=>?_);obtain⟨k1,k2⟩:=z;rw[k2];rcases Nat.lt_or_ge q U.length with k3|k3
   ·
    obtain⟨u,hu⟩:=am k3;have bj:=tZ hu;have kt:=aN u.cell (x5 u (List.mem_of_getElem? hu));have v:=dl (p:=gQ m U) hu;have y:=dm (p:=gQ m U) hu
    cases G:fe m.ao m.tables false u.cell with
    |none=>
     rw[G]at kt;rw[v (by rw[Qe G];decide)];exact ah
    |some jt=>
     obtain⟨j,t⟩:=jt;rw[G]at kt;obtain⟨_,ax,_⟩:=PJ G;have be:=fB ax;have aT:=aC ax;have I:=NY t.kind
     cases J:oJ t.kind with
     |true=>
      rw[J]at I;rw[Qg G J]at v y
      cases q with
      |zero=>
       repeat'(first
|(refine a8 ?_)
|((with_reducible apply aa.fz)<;>intro z)
|(refine aw ?_)
|((with_reducible apply aa.av);(case hW=>exact rfl);(case hx=>exact ae))
|((with_reducible apply aa.u0);(case hx=>first
|(exact iG kt)
|(exact ai I)
|exact ae))
|fail)
       all_goals first
        |exact ba (.inr rfl) rfl (by rw[v (by omega)];rfl)
        |exact⟨0+1,rfl,rfl,⟨by omega,y (by omega)⟩,by omega⟩
      |succ k=>
       obtain⟨w,hw⟩:=am (xs:=U) (k:=k) (by omega);have V:=tZ hw;have al:(iO U)[((k+1:Nat) - 1:Int).toNat]?=some [.int .i64 w.kind,.int .i64 w.cell,.int .i64 w.value]:=by rw[show((k+1:Nat) - 1:Int).toNat=k by omega];exact V
       have Z:U.getD (k+1 - 1) ⟨0,0,0⟩=w:=by rw[Nat.add_sub_cancel,List.getD_eq_getElem?_getD,hw];rfl
       rw[Z]at v y
       repeat'(first
|(refine a8 ?_)
|((with_reducible apply aa.bi)<;>intro z)
|((with_reducible apply aa.fz)<;>intro z)
|(refine aw ?_)
|((with_reducible apply aa.av);(case hW=>exact rfl);(case hx=>exact ae))
|((with_reducible apply aa.u0);(case hx=>first
|(exact iG kt)
|(exact ai I)
|exact ae))
|fail)
       all_goals first
        |exact ba (.inr rfl) rfl (by rw[v (by omega)];rfl)
        |exact⟨k+1+1,rfl,rfl,⟨by omega,y (by omega)⟩,by omega⟩
     |false=>
      rw[J]at I;rw[Qf G J]at v y
      cases q with
      |zero=>
       repeat'(first
|(refine a8 ?_)
|((with_reducible apply aa.bi)<;>intro z)
|((with_reducible apply aa.fz)<;>intro z)
|(refine aw ?_)
|((with_reducible apply aa.av);(case hW=>exact rfl);(case hx=>exact ae))
|((with_reducible apply aa.u0);(case hx=>first
|(exact iG kt)
|(exact ai I)
|exact ae))
|fail)
       all_goals first
        |exact ba (.inr rfl) rfl (by rw[v (by omega)];rfl)
        |exact⟨0+1,rfl,rfl,⟨by omega,y (by omega)⟩,by omega⟩
      |succ k=>
       obtain⟨w,hw⟩:=am (xs:=U) (k:=k) (by omega);have V:=tZ hw;have al:(iO U)[((k+1:Nat) - 1:Int).toNat]?=some [.int .i64 w.kind,.int .i64 w.cell,.int .i64 w.value]:=by rw[show((k+1:Nat) - 1:Int).toNat=k by omega];exact V
       have Z:U.getD (k+1 - 1) ⟨0,0,0⟩=w:=by rw[Nat.add_sub_cancel,List.getD_eq_getElem?_getD,hw];rfl
       rw[Z]at v y
       repeat'(first
|(refine a8 ?_)
|((with_reducible apply aa.bi)<;>intro z)
|((with_reducible apply aa.fz)<;>intro z)
|(refine aw ?_)
|((with_reducible apply aa.av);(case hW=>exact rfl);(case hx=>exact ae))
|((with_reducible apply aa.u0);(case hx=>first
|(exact iG kt)
|(exact ai I)
|exact ae))
|fail)
       all_goals first
        |exact ba (.inr rfl) rfl (by rw[v (by omega)];rfl)
        |exact⟨k+1+1,rfl,rfl,⟨by omega,y (by omega)⟩,by omega⟩
   ·
    rw[cL k3,Bool.true_and,<- ag];exact ah
end Go.Proofs.YtcgdbhlnkificaaGreatDoor
