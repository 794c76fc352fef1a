/- The reference's models,part by part,as contracts:. No condition. -/
import Derived.Test.YtjolgbkkocjpgaaGreatDoorTNC
set_option linter.all false
namespace Go.Proofs.YtjolgbkkocjpgaaGreatDoor
open Go.RowKit
set_option maxRecDepth 100000
set_option maxHeartbeats 16000000
def pT:fy ah.P 74=some (105,2):=by kernel_rfl
def Jj{m:Md}{n i:Nat}{c:Cn}:jA m n i c=true↔0<=c.kF/\c.kF <m.bx.length/\((c.kind=0/\c.first=0/\c.size=0/\cD n c.row=true)\/(2*n<=i/\c.kind=1/\jH m c=true)):=by
 unfold jA;simp only[Bool.and_eq_true,Bool.or_eq_true,decide_eq_true_eq,and_assoc]
def NN{cs:List Cn}{i:Nat}{r:Int×Int}{A B:Cn}(u:cs[2*i]?=some A)(v:cs[2*i+1]?=some B):mW cs i r=(decide (A.row=nS i r)&&decide (B.row=qB i r)):=by
 unfold mW;rw[List.getD_eq_getElem?_getD,List.getD_eq_getElem?_getD,u,v];rfl
def Ov{m:Md}(hm:bo m)(hv:bQ m.ai m.tables=true):Cl ah 87 [.t (bk m)] [] (.t (.bool (lz m (bH m.ai m.tables true)))) []:=by
 have aG:=nx m.cons;have aJ:=nM m.bx;have a1:=hm.cons;have y:=hm.a8;have a6:=hm.bx;have ks:=FO hm;have kg:=fun(c:Cn) (I:c∈m.cons)=>OQ (c:=c) hm hv (by have:=y c I;omega);have hR:=FV m.ai m.tables true;have V:=fun(r:Int×Int) (U:r∈bH m.ai m.tables true)=>Pc U;obtain⟨R,au⟩:∃R,bH m.ai m.tables true=R:=⟨_,rfl⟩;rw[au]at ks hR V⊢;have aV:=k7 R;rw[aS]at ks kg⊢;refine Cl.aq rfl Tryz.func87 rfl rfl rfl ?_;by_cases h0:2*R.length<=m.cons.length/\m.cons.length<=512
 ·
  obtain⟨ag,al⟩:=h0;obtain⟨Y,hY⟩:∃Y,allI (jA m R.length) m.cons=Y:=⟨_,rfl⟩
  have e0:lz m R=(aL (mW m.cons) 0 (R.drop 0)&&Y):=by
   unfold lz;rw[decide_eq_true ag,decide_eq_true al,hY];rfl
  rw[e0];refine ak ?_;refine ax.cA (fun q:Nat=>[(4,.t (.int .i64 (q:Int)))]) (fun _=>[.box false 30 ((eD m).map .t),.row false false 2 (bR R)]) (fun q=>q<=R.length/\aL (mW m.cons) 0 (R.drop 0)=aL (mW m.cons) q (R.drop q)) (fun q=>R.length - q) 0 rfl rfl ⟨by omega,rfl⟩ (fun q J=>?_);obtain⟨h1,h2⟩:=J;rw[h2];rcases Nat.lt_or_ge q R.length with h3|h3
  ·
   obtain⟨r,U⟩:=aj h3;have bb:=AN U;obtain⟨b1,b2,b3⟩:=V r (List.mem_of_getElem? U);obtain⟨A,hA⟩:=aj (xs:=m.cons) (k:=2*q) (by omega);obtain⟨B,hB⟩:=aj (xs:=m.cons) (k:=2*q+1) (by omega);have an:=mB hA;have ao:=mB hB;rw[show 2*q=(2*(q:Int)).toNat by omega]at an;rw[show 2*q+1=(2*(q:Int)+1).toNat by omega]at ao;have av:=NN (r:=r) hA hB;have u:=dB (p:=mW m.cons) U;have v:=dC (p:=mW m.cons) U;rw[av]at u v;have ad:nS q r=⟨[⟨(q:Int),-1⟩],0 - r.1⟩:=by unfold nS;rw[Int.zero_sub]
   have ab:qB q r=⟨[⟨(q:Int),1⟩],r.2⟩:=rfl;rw[ad,ab]at u v;have k1:=Gc (A:=A.row) (B:=⟨[⟨(q:Int),-1⟩],0 - r.1⟩) (by have:=y A (List.mem_of_getElem? hA);omega) (by simp);have k2:=Gc (A:=B.row) (B:=⟨[⟨(q:Int),1⟩],r.2⟩) (by have:=y B (List.mem_of_getElem? hB);omega) (by simp);obtain⟨p1,D⟩:∃p,decide (A.row=⟨[⟨(q:Int),-1⟩],0 - r.1⟩)=p:=⟨_,rfl⟩;obtain⟨p2,G⟩:∃p,decide (B.row=⟨[⟨(q:Int),1⟩],r.2⟩)=p:=⟨_,rfl⟩;rw[D]at k1 u v;rw[G]at k2 u v
   cases p1 with
   |false=>
    rw[u (by simp),Bool.false_and]
    repeat'(first
|((with_reducible apply aa.aR);(case hp=>exact aA))
|(refine ar ?_)
|((with_reducible apply aa.u0);(case hx=>first
|((with_reducible apply ac.fZ);(case hx=>exact rfl);(case h=>omega))
|((with_reducible apply ac.mul);(case hx|hy=>exact rfl);(case h=>omega))
|(exact ap k1)
|exact af))
|fail)
    exact⟨.inr rfl,rfl⟩
   |true=>
    cases p2 with
    |false=>
     rw[u (by simp),Bool.false_and]
     repeat'(first
|((with_reducible apply aa.aR);(case hp=>exact aA))
|(refine ar ?_)
|((with_reducible apply aa.aB);(case hW=>exact rfl);(case hx=>first
|((with_reducible apply ac.mul);(case hx|hy=>exact rfl);(case h=>omega))
|(exact ap k2)
|exact af))
|((with_reducible apply aa.u0);(case hx=>first
|((with_reducible apply ac.fZ);(case hx=>exact rfl);(case h=>omega))
|((with_reducible apply ac.mul);(case hx|hy=>exact rfl);(case h=>omega))
|(exact ap k1)
|exact af))
|fail)
     exact⟨.inr rfl,rfl⟩
    |true=>
     repeat'(first
|((with_reducible apply aa.aR);(case hp=>exact aA))
|(refine ar ?_)
|((with_reducible apply aa.aB);(case hW=>exact rfl);(case hx=>first
|((with_reducible apply ac.mul);(case hx|hy=>exact rfl);(case h=>omega))
|(exact ap k2)
|exact af))
|((with_reducible apply aa.u0);(case hx=>first
|((with_reducible apply ac.fZ);(case hx=>exact rfl);(case h=>omega))
|((with_reducible apply ac.mul);(case hx|hy=>exact rfl);(case h=>omega))
|(exact ap k1)
|exact af))
|fail)
     exact⟨q+1,rfl,rfl,⟨by omega,v rfl⟩,by omega⟩
  ·
   rw[cU h3,Bool.true_and,<- hY];have e1:allI (jA m R.length) m.cons=aL (jA m R.length) 0 (m.cons.drop 0):=rfl;rw[e1];refine ak ?_;refine ax.cA (fun q:Nat=>[(7,.t (.int .i64 (q:Int)))]) (fun _=>[.box false 30 ((eD m).map .t),.row false false 2 (bR R)]) (fun q=>q<=m.cons.length/\aL (jA m R.length) 0 (m.cons.drop 0)=aL (jA m R.length) q (m.cons.drop q)) (fun q=>m.cons.length - q) 0 rfl rfl ⟨by omega,rfl⟩ (fun q J=>?_);obtain⟨g1,g2⟩:=J;rw[g2];rcases Nat.lt_or_ge q m.cons.length with g3|g3
   ·
    obtain⟨c,I⟩:=aj g3;have aD:=mB I;have z:=List.mem_of_getElem? I;have kr:=Gb (n:=(R.length:Int)) (r:=c.row) (by have:=y c z;omega);have Z:=kg c z;have u:=dB (p:=jA m R.length) I;have v:=dC (p:=jA m R.length) I;rw[Jj]at u v;obtain⟨p1,D⟩:∃p,cD R.length c.row=p:=⟨_,rfl⟩;obtain⟨p2,G⟩:∃p,jH m c=p:=⟨_,rfl⟩;rw[D]at kr u v;rw[G]at Z u v;cases p1 <;>cases p2 <;>simp only[and_true,Bool.false_eq_true,and_false,or_false,false_or]at u v
    all_goals
     repeat'(first
|(refine aY ?_)
|((with_reducible apply aa.aX)<;>intro J)
|((with_reducible apply aa.bi)<;>intro J)
|(refine ar ?_)
|((with_reducible apply aa.aB);(case hW=>exact rfl);(case hx=>first
|((with_reducible apply ac.mul);(case hx|hy=>exact rfl);(case h=>omega))
|(exact ap kr)
|(exact ap Z)
|exact af))
|((with_reducible apply aa.u0);(case hx=>exact af))
|fail)
     all_goals first
      |exact a_ (.inr rfl) rfl (by rw[u (by first|omega|(intro h;exact h))])
      |exact⟨q+1,rfl,rfl,⟨by omega,v (by omega)⟩,by omega⟩
   ·
    rw[cU g3];exact ae
 ·
  have e0:lz m R=false:=by
   rw[<- Bool.not_eq_true];unfold lz;simp only[Bool.and_eq_true,decide_eq_true_eq];exact fun h=>h0 h.1
  rw[e0]
  repeat'(first
|((with_reducible apply aa.ee);(case hp=>exact aA))
|((with_reducible apply aa.aX)<;>intro J)
|(refine ar ?_)
|((with_reducible apply aa.aB);(case hW=>exact rfl);(case hx=>exact af))
|((with_reducible apply aa.u0);(case hx=>first
|((with_reducible apply ac.mul);(case hx|hy=>exact rfl);(case h=>omega))
|(exact lS ks)
|exact af))
|fail)
  all_goals first
   |exact⟨.inr rfl,rfl⟩
   |(exfalso;omega)
def I2{n:Int}{l:List bv}{i:Nat}{t:bv}:eu n l i t=true↔(0<=t.cell/\t.cell <n)/\(i=0\/(l.getD (i - 1) ⟨0,0⟩).cell <t.cell)/\t.add≠0/\cH t.add 1000000000=true:=by
 unfold eu;simp only[Bool.and_eq_true,Bool.or_eq_true,Bool.not_eq_true',decide_eq_true_eq,decide_eq_false_iff_not,ne_eq]
def Rv{m:Md}{l:List cG}{i:Nat}{u:cG}(h:fI m.ai m.tables false u.cell=none):gY m l i u=false:=by unfold gY;rw[h]
def Ry{m:Md}{l:List cG}{i j:Nat}{u:cG}{t:Tb}(h:fI m.ai m.tables false u.cell=some (j,t))(hs:oZ t.kind=true):gY m l i u=true↔(i=0\/(l.getD (i - 1) ⟨0,0,0⟩).cell <u.cell)/\(u.kind=0\/u.kind=1)/\u.value=0:=by
 unfold gY;rw[h];simp only[nY,hs,if_true,Bool.and_eq_true,Bool.or_eq_true,decide_eq_true_eq]
def Rx{m:Md}{l:List cG}{i j:Nat}{u:cG}{t:Tb}(h:fI m.ai m.tables false u.cell=some (j,t))(hs:oZ t.kind=false):gY m l i u=true↔(i=0\/(l.getD (i - 1) ⟨0,0,0⟩).cell <u.cell)/\u.kind=2/\t.lo<=u.value/\u.value<=t.hi:=by
 unfold gY;rw[h];simp only[nY,hs,Bool.false_eq_true,if_false,Bool.and_eq_true,Bool.or_eq_true,decide_eq_true_eq]
structure iB (x:jv):Prop where
 delta:x.delta.length<=17592186044416
 hold:x.hold.length<=17592186044416
 tD:∀r∈x.hold,r.a8.length<=17592186044416
 cg:x.cg.length<=17592186044416
 cell:∀u∈x.cg,u.cell<=9223372036854775807
theorem bo.eff{m:Md}(hm:bo m):∀a∈m.au,iB a.eff:=fun a u=>⟨hm.delta a u,hm.hold a u,hm.tD a u,hm.cg a u,hm.Rs a u⟩
def OE{m:Md}{x:jv}(hm:bo m)(hx:iB x):Cl ah 131 [.t (bk m),.t (.agg (nz x))] [] (.t (.bool (lC m (bH m.ai m.tables true).length x))) []:=by
 obtain⟨D,H,U⟩:=x;obtain⟨x1,x2,x3,x4,x5⟩:=hx;have x1:D.length<=17592186044416:=x1;have x2:H.length<=17592186044416:=x2;have x3:∀r∈H,r.a8.length<=17592186044416:=x3;have x4:U.length<=17592186044416:=x4;have x5:∀u∈U,u.cell<=9223372036854775807:=x5;have bb:=q_ D;have bd:=xc H;have bh:=BD U;have be:=fJ m.tables;have ks:=FO hm;have hR:=FV m.ai m.tables true;have aV:=fun c hc=>PA (S:=m.ai) (L:=m.tables) (s:=false) (c:=c) (by have:=hm.ai;omega) (by have:=hm.tables;omega) (fun t ht=>by have:=hm.av t ht;omega) hc;obtain⟨R,au⟩:∃R,bH m.ai m.tables true=R:=⟨_,rfl⟩;rw[au]at ks hR⊢;have aR:=k7 R;have e1:nz ⟨D,H,U⟩=[.arr (jb D),.arr (iT H),.arr (iW U)]:=rfl;rw[e1];rw[aS]at ks⊢;obtain⟨n,hn⟩:∃n,R.length=n:=⟨_,rfl⟩;rw[hn]at aR hR⊢;obtain⟨Y1,ab⟩:∃Y,H.all (cD n)=Y:=⟨_,rfl⟩;obtain⟨Y2,ad⟩:∃Y,allI (gY m U) U=Y:=⟨_,rfl⟩;obtain⟨Y3,ag⟩:∃Y,(decide (H.length<=8)&&decide (U.length<=32))=Y:=⟨_,rfl⟩
 have e0:lC m n ⟨D,H,U⟩=((aL (eu n D) 0 (D.drop 0)&&(Y1&&Y2))&&Y3):=by
  rw[<- ab,<- ad,<- ag];rfl
 rw[e0];refine Cl.aq rfl Tryz.func131 rfl rfl rfl ?_
 repeat'(first
|(refine ar ?_)
|((with_reducible apply aa.u0);(case hx=>first
|(exact lS ks)
|exact af))
|fail)
 rw[hn];apply am.lK
 case ho=>exact rfl
 case hp=>exact rfl
 case hl=>exact rfl
 case hs=>exact slt
 refine ax.ind (fun q:Nat=>[(6,.t (.int .i64 (q:Int)))]) (fun q=>q<=D.length/\aL (eu n D) 0 (D.drop 0)=aL (eu n D) q (D.drop q)) (fun q=>D.length - q) 0 rfl ⟨by omega,rfl⟩ (fun q z=>?_);obtain⟨h1,h2⟩:=z;rw[h2];rcases Nat.lt_or_ge q D.length with h3|h3
 ·
  obtain⟨t,ht⟩:=aj h3;have hc:=pO ht;have kf:=FA t.add;have v:=dB (p:=eu n D) ht;have y:=dC (p:=eu n D) ht;rw[I2]at v y;obtain⟨bf,aD⟩:∃b,cH t.add 1000000000=b:=⟨_,rfl⟩;rw[aD]at kf v y
  cases q with
  |zero=>
   cases bf with
   |false=>
    rw[v (fun h=>by cases h.2.2.2)];exact ae
   |true=>
    repeat'(first
|(refine aY ?_)
|((with_reducible apply aa.aX)<;>intro z)
|((with_reducible apply aa.bi)<;>intro z)
|(refine ar ?_)
|((with_reducible apply aa.aB);(case hW=>exact rfl);(case hx=>first
|(exact ap kf)
|exact af))
|((with_reducible apply aa.u0);(case hx=>exact af))
|fail)
    all_goals first
     |exact a_ (.inr rfl) rfl (by rw[v (fun h=>by obtain⟨_,_,_,_⟩:=h;omega)];rfl)
     |exact⟨0+1,rfl,rfl,⟨by omega,y ⟨by omega,.inl rfl,by omega,rfl⟩⟩,by omega⟩
  |succ k=>
   obtain⟨u,hu⟩:=aj (xs:=D) (k:=k) (by omega);have aG:=pO hu;have a1:(jb D)[((k+1:Nat) - 1:Int).toNat]?=some [.int .i64 u.cell,.int .i64 u.add]:=by rw[show((k+1:Nat) - 1:Int).toNat=k by omega];exact aG
   have aJ:D.getD (k+1 - 1) ⟨0,0⟩=u:=by rw[Nat.add_sub_cancel,List.getD_eq_getElem?_getD,hu];rfl
   rw[aJ]at v y
   cases bf with
   |false=>
    rw[v (fun h=>by cases h.2.2.2)];exact ae
   |true=>
    repeat'(first
|(refine aY ?_)
|((with_reducible apply aa.aX)<;>intro z)
|((with_reducible apply aa.bi)<;>intro z)
|(refine ar ?_)
|((with_reducible apply aa.aB);(case hW=>exact rfl);(case hx=>first
|(exact ap kf)
|exact af))
|((with_reducible apply aa.u0);(case hx=>exact af))
|fail)
    all_goals first
     |exact a_ (.inr rfl) rfl (by rw[v (fun h=>by obtain⟨_,_,_,_⟩:=h;omega)];rfl)
     |exact⟨k+1+1,rfl,rfl,⟨by omega,y ⟨by omega,.inr (by omega),by omega,rfl⟩⟩,by omega⟩
 ·
  rw[cU h3,Bool.true_and,<- ab];have e2:H.all (cD n)=(H.drop 0).all (cD n):=rfl;rw[e2];refine ak ?_;refine ax.ind (fun q:Nat=>[(8,.t (.int .i64 (q:Int)))]) (fun q=>q<=H.length/\(H.drop 0).all (cD n)=(H.drop q).all (cD n)) (fun q=>H.length - q) 0 rfl ⟨by omega,rfl⟩ (fun q z=>?_);obtain⟨g1,g2⟩:=z;rw[g2];rcases Nat.lt_or_ge q H.length with g3|g3
  ·
   obtain⟨r,hr⟩:=aj g3;have bl:=Gt hr;have kr:=Gb (n:=(n:Int)) (r:=r) (by have:=x3 r (List.mem_of_getElem? hr);omega);have an:=i_ (cD n) hr;obtain⟨b,hb⟩:∃b,cD n r=b:=⟨_,rfl⟩;rw[hb]at kr an;rw[an]
   cases b with
   |false=>
    exact ae
   |true=>
    exact ae
  ·
   rw[g_ _ g3,Bool.true_and,<- ad];have e3:allI (gY m U) U=aL (gY m U) 0 (U.drop 0):=rfl;rw[e3];refine ak ?_;refine ax.ind (fun q:Nat=>[(9,.t (.int .i64 (q:Int)))]) (fun q=>q<=U.length/\aL (gY m U) 0 (U.drop 0)=aL (gY m U) q (U.drop q)) (fun q=>U.length - q) 0 rfl ⟨by omega,rfl⟩ (fun q z=>?_);obtain⟨k1,k2⟩:=z;rw[k2];rcases Nat.lt_or_ge q U.length with k3|k3
   ·
    obtain⟨u,hu⟩:=aj k3;have bw:=uJ hu;have kt:=aV u.cell (x5 u (List.mem_of_getElem? hu));have v:=dB (p:=gY m U) hu;have y:=dC (p:=gY m U) hu
    cases G:fI m.ai m.tables false u.cell with
    |none=>
     rw[G]at kt;rw[v (by rw[Rv G];decide)];exact ae
    |some jt=>
     obtain⟨j,t⟩:=jt;rw[G]at kt;obtain⟨_,ao,_⟩:=Q0 G;have bm:=fo ao;have a6:=aC ao;have I:=Pv t.kind
     cases J:oZ t.kind with
     |true=>
      rw[J]at I;rw[Ry G J]at v y
      cases q with
      |zero=>
       repeat'(first
|(refine aY ?_)
|((with_reducible apply aa.fj)<;>intro z)
|(refine ar ?_)
|((with_reducible apply aa.aB);(case hW=>exact rfl);(case hx=>exact af))
|((with_reducible apply aa.u0);(case hx=>first
|(exact lS kt)
|(exact ap I)
|exact af))
|fail)
       all_goals first
        |exact a_ (.inr rfl) rfl (by rw[v (by omega)];rfl)
        |exact⟨0+1,rfl,rfl,⟨by omega,y (by omega)⟩,by omega⟩
      |succ k=>
       obtain⟨w,hw⟩:=aj (xs:=U) (k:=k) (by omega);have V:=uJ hw;have al:(iW U)[((k+1:Nat) - 1:Int).toNat]?=some [.int .i64 w.kind,.int .i64 w.cell,.int .i64 w.value]:=by rw[show((k+1:Nat) - 1:Int).toNat=k by omega];exact V
       have Z:U.getD (k+1 - 1) ⟨0,0,0⟩=w:=by rw[Nat.add_sub_cancel,List.getD_eq_getElem?_getD,hw];rfl
       rw[Z]at v y
       repeat'(first
|(refine aY ?_)
|((with_reducible apply aa.bi)<;>intro z)
|((with_reducible apply aa.fj)<;>intro z)
|(refine ar ?_)
|((with_reducible apply aa.aB);(case hW=>exact rfl);(case hx=>exact af))
|((with_reducible apply aa.u0);(case hx=>first
|(exact lS kt)
|(exact ap I)
|exact af))
|fail)
       all_goals first
        |exact a_ (.inr rfl) rfl (by rw[v (by omega)];rfl)
        |exact⟨k+1+1,rfl,rfl,⟨by omega,y (by omega)⟩,by omega⟩
     |false=>
      rw[J]at I;rw[Rx G J]at v y
      cases q with
      |zero=>
       repeat'(first
|(refine aY ?_)
|((with_reducible apply aa.bi)<;>intro z)
|((with_reducible apply aa.fj)<;>intro z)
|(refine ar ?_)
|((with_reducible apply aa.aB);(case hW=>exact rfl);(case hx=>exact af))
|((with_reducible apply aa.u0);(case hx=>first
|(exact lS kt)
|(exact ap I)
|exact af))
|fail)
       all_goals first
        |exact a_ (.inr rfl) rfl (by rw[v (by omega)];rfl)
        |exact⟨0+1,rfl,rfl,⟨by omega,y (by omega)⟩,by omega⟩
      |succ k=>
       obtain⟨w,hw⟩:=aj (xs:=U) (k:=k) (by omega);have V:=uJ hw;have al:(iW U)[((k+1:Nat) - 1:Int).toNat]?=some [.int .i64 w.kind,.int .i64 w.cell,.int .i64 w.value]:=by rw[show((k+1:Nat) - 1:Int).toNat=k by omega];exact V
       have Z:U.getD (k+1 - 1) ⟨0,0,0⟩=w:=by rw[Nat.add_sub_cancel,List.getD_eq_getElem?_getD,hw];rfl
       rw[Z]at v y
       repeat'(first
|(refine aY ?_)
|((with_reducible apply aa.bi)<;>intro z)
|((with_reducible apply aa.fj)<;>intro z)
|(refine ar ?_)
|((with_reducible apply aa.aB);(case hW=>exact rfl);(case hx=>exact af))
|((with_reducible apply aa.u0);(case hx=>first
|(exact lS kt)
|(exact ap I)
|exact af))
|fail)
       all_goals first
        |exact a_ (.inr rfl) rfl (by rw[v (by omega)];rfl)
        |exact⟨k+1+1,rfl,rfl,⟨by omega,y (by omega)⟩,by omega⟩
   ·
    rw[cU k3,Bool.true_and,<- ag];exact ae
end Go.Proofs.YtjolgbkkocjpgaaGreatDoor
