/- The reference's models,part by part,as contracts: constraints. No condition. -/
import Derived.Test.YtjolgbkkocjpgaaGreatDoorTNC
set_option linter.defProp false
set_option linter.unusedSimpArgs false
set_option linter.unusedVariables false
set_option linter.unusedSectionVars false
namespace Go.Proofs.YtjolgbkkocjpgaaGreatDoor
open Go.RowKit
set_option maxRecDepth 100000
set_option maxHeartbeats 16000000
def pz:eL ai.P 74=some (105,2):=by kernel_rfl
def Nx{m:Md}{n i:Nat}{c:Cn}:jn m n i c=true↔0<=c.jR/\c.jR <m.bw.length/\((c.kind=0/\c.first=0/\c.size=0/\cy n c.row=true)\/(2*n<=i/\c.kind=1/\jm m c=true)):=by
 unfold jn;simp only[Bool.and_eq_true,Bool.or_eq_true,decide_eq_true_eq,and_assoc]
def Ny{cs:List Cn}{i:Nat}{r:Int×Int}{A B:Cn}(u:cs[2*i]?=some A)(v:cs[2*i+1]?=some B):lY cs i r=(decide (A.row=mL i r)&&decide (B.row=pf i r)):=by
 unfold lY;rw[List.getD_eq_getElem?_getD,List.getD_eq_getElem?_getD,u,v];rfl
def Nz{m:Md}(hm:bt m)(hv:bH m.ak m.tables=true):Cl ai 87 [.t (bz m)] [] (.t (.bool (kV m (bx m.ak m.tables true)))) []:=by
 have aL:=qJ m.cons;have aR:=mY m.bw;have a1:=hm.cons;have y:=hm.a_;have a6:=hm.bw;have ks:=El hm;have kg:=fun(c:Cn) (hc:c∈m.cons)=>MQ (c:=c) hm hv (by have:=y c hc;omega);have hR:=CT m.ak m.tables true;have U:=fun(r:Int×Int) (J:r∈bx m.ak m.tables true)=>JG J;obtain⟨R,aw⟩:∃R,bx m.ak m.tables true=R:=⟨_,rfl⟩;rw[aw]at ks hR U⊢;have aS:=jy R;rw[aW]at ks kg⊢;refine Cl.ao rfl Tryz.func87 rfl rfl rfl ?_;by_cases h0:2*R.length<=m.cons.length/\m.cons.length<=512
 ·
  obtain⟨ag,al⟩:=h0;obtain⟨Y,hY⟩:∃Y,allI (jn m R.length) m.cons=Y:=⟨_,rfl⟩
  have e0:kV m R=(aY (lY m.cons) 0 (R.drop 0)&&Y):=by
   unfold kV;rw[decide_eq_true ag,decide_eq_true al,hY];rfl
  rw[e0];refine ar ?_;refine aC.cB (fun q:Nat=>[(4,.t (.int .i64 (q:Int)))]) (fun _=>[.box false 30 ((dW m).map .t),.row false false 2 (bJ R)]) (fun q=>q<=R.length/\aY (lY m.cons) 0 (R.drop 0)=aY (lY m.cons) q (R.drop q)) (fun q=>R.length - q) 0 rfl rfl ⟨by omega,rfl⟩ (fun q I=>?_);obtain⟨h1,h2⟩:=I;rw[h2];rcases Nat.lt_or_ge q R.length with h3|h3
  ·
   obtain⟨r,J⟩:=am h3;have bb:=zh J;obtain⟨b1,b2,b3⟩:=U r (List.mem_of_getElem? J);obtain⟨A,hA⟩:=am (xs:=m.cons) (k:=2*q) (by omega);obtain⟨B,hB⟩:=am (xs:=m.cons) (k:=2*q+1) (by omega);have an:=pu hA;have au:=pu hB;rw[show 2*q=(2*(q:Int)).toNat by omega]at an;rw[show 2*q+1=(2*(q:Int)+1).toNat by omega]at au;have ay:=Ny (r:=r) hA hB;have u:=gz (p:=lY m.cons) J;have v:=gA (p:=lY m.cons) J;rw[ay]at u v;have ad:mL q r=⟨[⟨(q:Int),-1⟩],0 - r.1⟩:=by unfold mL;rw[Int.zero_sub]
   have ab:pf q r=⟨[⟨(q:Int),1⟩],r.2⟩:=rfl;rw[ad,ab]at u v;have Z:=Ea (A:=A.row) (B:=⟨[⟨(q:Int),-1⟩],0 - r.1⟩) (by have:=y A (List.mem_of_getElem? hA);omega) (by simp);have k2:=Ea (A:=B.row) (B:=⟨[⟨(q:Int),1⟩],r.2⟩) (by have:=y B (List.mem_of_getElem? hB);omega) (by simp);obtain⟨p1,D⟩:∃p,decide (A.row=⟨[⟨(q:Int),-1⟩],0 - r.1⟩)=p:=⟨_,rfl⟩;obtain⟨p2,G⟩:∃p,decide (B.row=⟨[⟨(q:Int),1⟩],r.2⟩)=p:=⟨_,rfl⟩;rw[D]at Z u v;rw[G]at k2 u v
   cases p1 with
   |false=>
    rw[u (by simp),Bool.false_and]
    repeat'(first
|(with_reducible first|apply ac.seq|apply ac.block)
|((with_reducible apply ac.text);(try case hm=>exact rfl))
|((with_reducible apply ac.drawn);(case hm=>exact rfl))
|(with_reducible first|apply ac.skip|apply ac.ret|apply az|apply aV|apply bq)
|((with_reducible apply ac.aA);(case hc=>exact rfl))
|((with_reducible apply aa.aE);(case hp=>exact aj))
|(with_reducible apply aa.ap)
|((with_reducible apply aa.gf);(case hW=>exact rfl))
|((with_reducible apply aa.u0);(case hx=>first
|((with_reducible apply ae.gX);(case hx=>exact rfl);(case h=>omega))
|((with_reducible apply ae.mul);(case hx|hy=>exact rfl);(case h=>omega))
|(exact aq Z)
|exact ah))
|fail)
    exact⟨.inr rfl,rfl⟩
   |true=>
    cases p2 with
    |false=>
     rw[u (by simp),Bool.false_and]
     repeat'(first
|(with_reducible first|apply ac.seq|apply ac.block)
|((with_reducible apply ac.text);(try case hm=>exact rfl))
|((with_reducible apply ac.drawn);(case hm=>exact rfl))
|(with_reducible first|apply ac.skip|apply ac.ret|apply az|apply aV|apply bq)
|((with_reducible apply ac.aA);(case hc=>exact rfl))
|((with_reducible apply aa.aE);(case hp=>exact aj))
|(with_reducible apply aa.ap)
|((with_reducible apply aa.aD);(case hW=>exact rfl);(case hx=>first
|((with_reducible apply ae.mul);(case hx|hy=>exact rfl);(case h=>omega))
|(exact aq k2)
|exact ah))
|((with_reducible apply aa.u0);(case hx=>first
|((with_reducible apply ae.gX);(case hx=>exact rfl);(case h=>omega))
|((with_reducible apply ae.mul);(case hx|hy=>exact rfl);(case h=>omega))
|(exact aq Z)
|exact ah))
|fail)
     exact⟨.inr rfl,rfl⟩
    |true=>
     repeat'(first
|(with_reducible first|apply ac.seq|apply ac.block)
|((with_reducible apply ac.text);(try case hm=>exact rfl))
|((with_reducible apply ac.drawn);(case hm=>exact rfl))
|(with_reducible first|apply ac.skip|apply az|apply bk)
|((with_reducible apply ac.aA);(case hc=>exact rfl))
|((with_reducible apply ac.aH);(case hc=>exact rfl))
|((with_reducible apply aa.aE);(case hp=>exact aj))
|(with_reducible apply aa.ap)
|((with_reducible apply aa.aD);(case hW=>exact rfl);(case hx=>first
|((with_reducible apply ae.mul);(case hx|hy=>exact rfl);(case h=>omega))
|(exact aq k2)
|exact ah))
|((with_reducible apply aa.u0);(case hx=>first
|((with_reducible apply ae.gX);(case hx=>exact rfl);(case h=>omega))
|((with_reducible apply ae.mul);(case hx|hy=>exact rfl);(case h=>omega))
|(exact aq Z)
|exact ah))
|fail)
     exact⟨q+1,rfl,rfl,⟨by omega,v rfl⟩,by omega⟩
  ·
   rw[eT h3,Bool.true_and,<- hY];have e1:allI (jn m R.length) m.cons=aY (jn m R.length) 0 (m.cons.drop 0):=rfl;rw[e1];refine ar ?_;refine aC.cB (fun q:Nat=>[(7,.t (.int .i64 (q:Int)))]) (fun _=>[.box false 30 ((dW m).map .t),.row false false 2 (bJ R)]) (fun q=>q<=m.cons.length/\aY (jn m R.length) 0 (m.cons.drop 0)=aY (jn m R.length) q (m.cons.drop q)) (fun q=>m.cons.length - q) 0 rfl rfl ⟨by omega,rfl⟩ (fun q I=>?_);obtain⟨g1,g2⟩:=I;rw[g2];rcases Nat.lt_or_ge q m.cons.length with g3|g3
   ·
    obtain⟨c,hc⟩:=am g3;have aI:=pu hc;have z:=List.mem_of_getElem? hc;have kr:=Eh (n:=(R.length:Int)) (r:=c.row) (by have:=y c z;omega);have V:=kg c z;have u:=gz (p:=jn m R.length) hc;have v:=gA (p:=jn m R.length) hc;rw[Nx]at u v;obtain⟨p1,D⟩:∃p,cy R.length c.row=p:=⟨_,rfl⟩;obtain⟨p2,G⟩:∃p,jm m c=p:=⟨_,rfl⟩;rw[D]at kr u v;rw[G]at V u v;cases p1 <;>cases p2 <;>simp only[and_true,Bool.false_eq_true,and_false,or_false,false_or]at u v
    all_goals
     repeat'(first
|(with_reducible first|apply ac.seq|apply ac.block)
|((with_reducible apply ac.text);(try case hm=>exact rfl))
|(with_reducible first|apply ac.skip|apply ac.ret|apply az|apply aV|apply bk|apply bq)
|((with_reducible apply ac.aA);(case hc=>exact rfl))
|((with_reducible apply ac.aH);(case hc=>exact rfl))
|((with_reducible apply aa.aE);(case hp=>exact aj))
|((with_reducible apply aa.bc)<;>intro I)
|((with_reducible apply aa.cA);(case hp=>exact aj))
|((with_reducible apply aa.bg)<;>intro I)
|(with_reducible apply aa.ap)
|((with_reducible apply aa.gf);(case hW=>exact rfl))
|((with_reducible apply aa.aD);(case hW=>exact rfl);(case hx=>first
|((with_reducible apply ae.mul);(case hx|hy=>exact rfl);(case h=>omega))
|(exact aq kr)
|(exact aq V)
|exact ah))
|((with_reducible apply aa.u0);(case hx=>exact ah))
|fail)
     all_goals first
      |exact aZ (.inr rfl) rfl (by rw[u (by first|omega|(intro h;exact h))])
      |exact⟨q+1,rfl,rfl,⟨by omega,v (by omega)⟩,by omega⟩
   ·
    rw[eT g3];exact af
 ·
  have e0:kV m R=false:=by
   rw[<- Bool.not_eq_true];unfold kV;simp only[Bool.and_eq_true,decide_eq_true_eq];exact fun h=>h0 h.1
  rw[e0]
  repeat'(first
|(with_reducible apply ac.seq)
|((with_reducible apply ac.text);(try case hm=>exact rfl))
|(with_reducible first|apply ac.ret|apply aV)
|((with_reducible apply ac.aA);(case hc=>exact rfl))
|((with_reducible apply aa.bc)<;>intro I)
|((with_reducible apply aa.cd);(case hp=>exact aj))
|(with_reducible apply aa.ap)
|((with_reducible apply aa.gf);(case hW=>exact rfl))
|((with_reducible apply aa.aD);(case hW=>exact rfl);(case hx=>exact ah))
|((with_reducible apply aa.u0);(case hx=>first
|((with_reducible apply ae.mul);(case hx|hy=>exact rfl);(case h=>omega))
|(exact mJ ks)
|exact ah))
|fail)
  all_goals first
   |exact⟨.inr rfl,rfl⟩
   |(exfalso;omega)
def NA{n:Int}{l:List bD}{i:Nat}{t:bD}:eV n l i t=true↔(0<=t.cell/\t.cell <n)/\(i=0\/(l.getD (i - 1) ⟨0,0⟩).cell <t.cell)/\t.add≠0/\cE t.add 1000000000=true:=by
 unfold eV;simp only[Bool.and_eq_true,Bool.or_eq_true,Bool.not_eq_true',decide_eq_true_eq,decide_eq_false_iff_not,ne_eq]
def NB{m:Md}{l:List cD}{i:Nat}{u:cD}(h:eU m.ak m.tables false u.cell=none):gr m l i u=false:=by unfold gr;rw[h]
def NC{m:Md}{l:List cD}{i j:Nat}{u:cD}{t:Tb}(h:eU m.ak m.tables false u.cell=some (j,t))(hs:nN t.kind=true):gr m l i u=true↔(i=0\/(l.getD (i - 1) ⟨0,0,0⟩).cell <u.cell)/\(u.kind=0\/u.kind=1)/\u.value=0:=by
 unfold gr;rw[h];simp only[mN,hs,if_true,Bool.and_eq_true,Bool.or_eq_true,decide_eq_true_eq]
def ND{m:Md}{l:List cD}{i j:Nat}{u:cD}{t:Tb}(h:eU m.ak m.tables false u.cell=some (j,t))(hs:nN t.kind=false):gr m l i u=true↔(i=0\/(l.getD (i - 1) ⟨0,0,0⟩).cell <u.cell)/\u.kind=2/\t.lo<=u.value/\u.value<=t.hi:=by
 unfold gr;rw[h];simp only[mN,hs,Bool.false_eq_true,if_false,Bool.and_eq_true,Bool.or_eq_true,decide_eq_true_eq]
structure iC (x:kU):Prop where
 delta:x.delta.length<=17592186044416
 hold:x.hold.length<=17592186044416
 sL:∀r∈x.hold,r.a_.length<=17592186044416
 bZ:x.bZ.length<=17592186044416
 cell:∀u∈x.bZ,u.cell<=9223372036854775807
theorem bt.eff{m:Md}(hm:bt m):∀a∈m.ay,iC a.eff:=fun a u=>⟨hm.delta a u,hm.hold a u,hm.sL a u,hm.bZ a u,hm.LC a u⟩
def NE{m:Md}{x:kU}(hm:bt m)(hx:iC x):Cl ai 131 [.t (bz m),.t (.agg (qI x))] [] (.t (.bool (kW m (bx m.ak m.tables true).length x))) []:=by
 obtain⟨D,H,U⟩:=x;obtain⟨x1,x2,x3,x4,x5⟩:=hx;have x1:D.length<=17592186044416:=x1;have x2:H.length<=17592186044416:=x2;have x3:∀r∈H,r.a_.length<=17592186044416:=x3;have x4:U.length<=17592186044416:=x4;have x5:∀u∈U,u.cell<=9223372036854775807:=x5;have bd:=sI D;have be:=vD H;have bl:=zg U;have bj:=e9 m.tables;have ks:=El hm;have hR:=CT m.ak m.tables true;have a1:=fun c hc=>ML (S:=m.ak) (L:=m.tables) (s:=false) (c:=c) (by have:=hm.ak;omega) (by have:=hm.tables;omega) (fun t ht=>by have:=hm.au t ht;omega) hc;obtain⟨R,ay⟩:∃R,bx m.ak m.tables true=R:=⟨_,rfl⟩;rw[ay]at ks hR⊢;have aS:=jy R;have e1:qI ⟨D,H,U⟩=[.arr (iS D),.arr (iz H),.arr (iA U)]:=rfl;rw[e1];rw[aW]at ks⊢;obtain⟨n,hn⟩:∃n,R.length=n:=⟨_,rfl⟩;rw[hn]at aS hR⊢;obtain⟨Y1,ab⟩:∃Y,H.all (cy n)=Y:=⟨_,rfl⟩;obtain⟨Y2,ad⟩:∃Y,allI (gr m U) U=Y:=⟨_,rfl⟩;obtain⟨Y3,ag⟩:∃Y,(decide (H.length<=8)&&decide (U.length<=32))=Y:=⟨_,rfl⟩
 have e0:kW m n ⟨D,H,U⟩=((aY (eV n D) 0 (D.drop 0)&&(Y1&&Y2))&&Y3):=by
  rw[<- ab,<- ad,<- ag];rfl
 rw[e0];refine Cl.ao rfl Tryz.func131 rfl rfl rfl ?_
 repeat'(first
|(with_reducible first|apply ac.seq|apply ac.block)
|((with_reducible apply ac.text);(try case hm=>exact rfl))
|(with_reducible apply aa.ap)
|((with_reducible apply aa.u0);(case hx=>first
|(exact mJ ks)
|exact ah))
|fail)
 rw[hn];apply ac.kQ
 case ho=>exact rfl
 case hp=>exact rfl
 case hl=>exact rfl
 case hs=>exact slt
 refine aC.ind (fun q:Nat=>[(6,.t (.int .i64 (q:Int)))]) (fun q=>q<=D.length/\aY (eV n D) 0 (D.drop 0)=aY (eV n D) q (D.drop q)) (fun q=>D.length - q) 0 rfl ⟨by omega,rfl⟩ (fun q z=>?_);obtain⟨h1,h2⟩:=z;rw[h2];rcases Nat.lt_or_ge q D.length with h3|h3
 ·
  obtain⟨t,ht⟩:=am h3;have hc:=qM ht;have kf:=Eg t.add;have v:=gz (p:=eV n D) ht;have y:=gA (p:=eV n D) ht;rw[NA]at v y;obtain⟨bf,aI⟩:∃b,cE t.add 1000000000=b:=⟨_,rfl⟩;rw[aI]at kf v y
  cases q with
  |zero=>
   cases bf with
   |false=>
    rw[v (fun h=>by cases h.2.2.2)];exact af
   |true=>
    repeat'(first
|(with_reducible first|apply ac.seq|apply ac.block)
|((with_reducible apply ac.text);(try case hm=>exact rfl))
|((with_reducible apply ac.drawn);(case hm=>exact rfl))
|(with_reducible first|apply ac.skip|apply ac.ret|apply az|apply aV|apply bk|apply bq)
|((with_reducible apply ac.aA);(case hc=>exact rfl))
|((with_reducible apply ac.aH);(case hc=>exact rfl))
|((with_reducible apply aa.aE);(case hp=>exact aj))
|((with_reducible apply aa.bc)<;>intro z)
|((with_reducible apply aa.cA);(case hp=>exact aj))
|((with_reducible apply aa.bg)<;>intro z)
|(with_reducible apply aa.ap)
|((with_reducible apply aa.gf);(case hW=>exact rfl))
|((with_reducible apply aa.aD);(case hW=>exact rfl);(case hx=>first
|(exact aq kf)
|exact ah))
|((with_reducible apply aa.u0);(case hx=>exact ah))
|fail)
    all_goals first
     |exact aZ (.inr rfl) rfl (by rw[v (fun h=>by obtain⟨_,_,_,_⟩:=h;omega)];rfl)
     |exact⟨0+1,rfl,rfl,⟨by omega,y ⟨by omega,.inl rfl,by omega,rfl⟩⟩,by omega⟩
  |succ k=>
   obtain⟨u,hu⟩:=am (xs:=D) (k:=k) (by omega);have aL:=qM hu;have a6:(iS D)[((k+1:Nat) - 1:Int).toNat]?=some [.int .i64 u.cell,.int .i64 u.add]:=by rw[show((k+1:Nat) - 1:Int).toNat=k by omega];exact aL
   have aR:D.getD (k+1 - 1) ⟨0,0⟩=u:=by rw[Nat.add_sub_cancel,List.getD_eq_getElem?_getD,hu];rfl
   rw[aR]at v y
   cases bf with
   |false=>
    rw[v (fun h=>by cases h.2.2.2)];exact af
   |true=>
    repeat'(first
|(with_reducible first|apply ac.seq|apply ac.block)
|((with_reducible apply ac.text);(try case hm=>exact rfl))
|((with_reducible apply ac.drawn);(case hm=>exact rfl))
|(with_reducible first|apply ac.skip|apply ac.ret|apply az|apply aV|apply bk|apply bq)
|((with_reducible apply ac.aA);(case hc=>exact rfl))
|((with_reducible apply ac.aH);(case hc=>exact rfl))
|((with_reducible apply aa.aE);(case hp=>exact aj))
|((with_reducible apply aa.bc)<;>intro z)
|((with_reducible apply aa.cd);(case hp=>exact aj))
|((with_reducible apply aa.bg)<;>intro z)
|(with_reducible apply aa.ap)
|((with_reducible apply aa.gf);(case hW=>exact rfl))
|((with_reducible apply aa.aD);(case hW=>exact rfl);(case hx=>first
|(exact aq kf)
|exact ah))
|((with_reducible apply aa.u0);(case hx=>exact ah))
|fail)
    all_goals first
     |exact aZ (.inr rfl) rfl (by rw[v (fun h=>by obtain⟨_,_,_,_⟩:=h;omega)];rfl)
     |exact⟨k+1+1,rfl,rfl,⟨by omega,y ⟨by omega,.inr (by omega),by omega,rfl⟩⟩,by omega⟩
 ·
  rw[eT h3,Bool.true_and,<- ab];have e2:H.all (cy n)=(H.drop 0).all (cy n):=rfl;rw[e2];refine ar ?_;refine aC.ind (fun q:Nat=>[(8,.t (.int .i64 (q:Int)))]) (fun q=>q<=H.length/\(H.drop 0).all (cy n)=(H.drop q).all (cy n)) (fun q=>H.length - q) 0 rfl ⟨by omega,rfl⟩ (fun q z=>?_);obtain⟨g1,g2⟩:=z;rw[g2];rcases Nat.lt_or_ge q H.length with g3|g3
  ·
   obtain⟨r,hr⟩:=am g3;have bm:=DU hr;have kr:=Eh (n:=(n:Int)) (r:=r) (by have:=x3 r (List.mem_of_getElem? hr);omega);have an:=iO (cy n) hr;obtain⟨b,hb⟩:∃b,cy n r=b:=⟨_,rfl⟩;rw[hb]at kr an;rw[an]
   cases b with
   |false=>
    exact af
   |true=>
    exact af
  ·
   rw[gR _ g3,Bool.true_and,<- ad];have e3:allI (gr m U) U=aY (gr m U) 0 (U.drop 0):=rfl;rw[e3];refine ar ?_;refine aC.ind (fun q:Nat=>[(9,.t (.int .i64 (q:Int)))]) (fun q=>q<=U.length/\aY (gr m U) 0 (U.drop 0)=aY (gr m U) q (U.drop q)) (fun q=>U.length - q) 0 rfl ⟨by omega,rfl⟩ (fun q z=>?_);obtain⟨k1,k2⟩:=z;rw[k2];rcases Nat.lt_or_ge q U.length with k3|k3
   ·
    obtain⟨u,hu⟩:=am k3;have bC:=sJ hu;have kt:=a1 u.cell (x5 u (List.mem_of_getElem? hu));have v:=gz (p:=gr m U) hu;have y:=gA (p:=gr m U) hu
    cases G:eU m.ak m.tables false u.cell with
    |none=>
     rw[G]at kt;rw[v (by rw[NB G];decide)];exact af
    |some jt=>
     obtain⟨j,t⟩:=jt;rw[G]at kt;obtain⟨_,aw,_⟩:=JH G;have bw:=eK aw;have bb:=aF aw;have I:=MM t.kind
     cases J:nN t.kind with
     |true=>
      rw[J]at I;rw[NC G J]at v y
      cases q with
      |zero=>
       repeat'(first
|(with_reducible first|apply ac.seq|apply ac.block)
|((with_reducible apply ac.text);(try case hm=>exact rfl))
|((with_reducible apply ac.drawn);(case hm=>exact rfl))
|(with_reducible first|apply ac.skip|apply ac.ret|apply az|apply aV|apply bk|apply bq)
|((with_reducible apply ac.aA);(case hc=>exact rfl))
|((with_reducible apply ac.aH);(case hc=>exact rfl))
|((with_reducible apply aa.aE);(case hp=>exact aj))
|((with_reducible apply aa.cA);(case hp=>exact aj))
|((with_reducible apply aa.fg)<;>intro z)
|(with_reducible apply aa.ap)
|((with_reducible apply aa.gf);(case hW=>exact rfl))
|((with_reducible apply aa.aD);(case hW=>exact rfl);(case hx=>exact ah))
|((with_reducible apply aa.u0);(case hx=>first
|(exact mJ kt)
|(exact aq I)
|exact ah))
|fail)
       all_goals first
        |exact aZ (.inr rfl) rfl (by rw[v (by omega)];rfl)
        |exact⟨0+1,rfl,rfl,⟨by omega,y (by omega)⟩,by omega⟩
      |succ k=>
       obtain⟨w,hw⟩:=am (xs:=U) (k:=k) (by omega);have V:=sJ hw;have al:(iA U)[((k+1:Nat) - 1:Int).toNat]?=some [.int .i64 w.kind,.int .i64 w.cell,.int .i64 w.value]:=by rw[show((k+1:Nat) - 1:Int).toNat=k by omega];exact V
       have Z:U.getD (k+1 - 1) ⟨0,0,0⟩=w:=by rw[Nat.add_sub_cancel,List.getD_eq_getElem?_getD,hw];rfl
       rw[Z]at v y
       repeat'(first
|(with_reducible first|apply ac.seq|apply ac.block)
|((with_reducible apply ac.text);(try case hm=>exact rfl))
|((with_reducible apply ac.drawn);(case hm=>exact rfl))
|(with_reducible first|apply ac.skip|apply ac.ret|apply az|apply aV|apply bk|apply bq)
|((with_reducible apply ac.aA);(case hc=>exact rfl))
|((with_reducible apply ac.aH);(case hc=>exact rfl))
|((with_reducible apply aa.aE);(case hp=>exact aj))
|((with_reducible apply aa.cd);(case hp=>exact aj))
|((with_reducible apply aa.bg)<;>intro z)
|((with_reducible apply aa.fg)<;>intro z)
|(with_reducible apply aa.ap)
|((with_reducible apply aa.gf);(case hW=>exact rfl))
|((with_reducible apply aa.aD);(case hW=>exact rfl);(case hx=>exact ah))
|((with_reducible apply aa.u0);(case hx=>first
|(exact mJ kt)
|(exact aq I)
|exact ah))
|fail)
       all_goals first
        |exact aZ (.inr rfl) rfl (by rw[v (by omega)];rfl)
        |exact⟨k+1+1,rfl,rfl,⟨by omega,y (by omega)⟩,by omega⟩
     |false=>
      rw[J]at I;rw[ND G J]at v y
      cases q with
      |zero=>
       repeat'(first
|(with_reducible first|apply ac.seq|apply ac.block)
|((with_reducible apply ac.text);(try case hm=>exact rfl))
|((with_reducible apply ac.drawn);(case hm=>exact rfl))
|(with_reducible first|apply ac.skip|apply ac.ret|apply az|apply aV|apply bk|apply bq)
|((with_reducible apply ac.aA);(case hc=>exact rfl))
|((with_reducible apply ac.aH);(case hc=>exact rfl))
|((with_reducible apply aa.aE);(case hp=>exact aj))
|((with_reducible apply aa.cA);(case hp=>exact aj))
|((with_reducible apply aa.bg)<;>intro z)
|((with_reducible apply aa.fg)<;>intro z)
|(with_reducible apply aa.ap)
|((with_reducible apply aa.gf);(case hW=>exact rfl))
|((with_reducible apply aa.aD);(case hW=>exact rfl);(case hx=>exact ah))
|((with_reducible apply aa.u0);(case hx=>first
|(exact mJ kt)
|(exact aq I)
|exact ah))
|fail)
       all_goals first
        |exact aZ (.inr rfl) rfl (by rw[v (by omega)];rfl)
        |exact⟨0+1,rfl,rfl,⟨by omega,y (by omega)⟩,by omega⟩
      |succ k=>
       obtain⟨w,hw⟩:=am (xs:=U) (k:=k) (by omega);have V:=sJ hw;have al:(iA U)[((k+1:Nat) - 1:Int).toNat]?=some [.int .i64 w.kind,.int .i64 w.cell,.int .i64 w.value]:=by rw[show((k+1:Nat) - 1:Int).toNat=k by omega];exact V
       have Z:U.getD (k+1 - 1) ⟨0,0,0⟩=w:=by rw[Nat.add_sub_cancel,List.getD_eq_getElem?_getD,hw];rfl
       rw[Z]at v y
       repeat'(first
|(with_reducible first|apply ac.seq|apply ac.block)
|((with_reducible apply ac.text);(try case hm=>exact rfl))
|((with_reducible apply ac.drawn);(case hm=>exact rfl))
|(with_reducible first|apply ac.skip|apply ac.ret|apply az|apply aV|apply bk|apply bq)
|((with_reducible apply ac.aA);(case hc=>exact rfl))
|((with_reducible apply ac.aH);(case hc=>exact rfl))
|((with_reducible apply aa.aE);(case hp=>exact aj))
|((with_reducible apply aa.cd);(case hp=>exact aj))
|((with_reducible apply aa.bg)<;>intro z)
|((with_reducible apply aa.fg)<;>intro z)
|(with_reducible apply aa.ap)
|((with_reducible apply aa.gf);(case hW=>exact rfl))
|((with_reducible apply aa.aD);(case hW=>exact rfl);(case hx=>exact ah))
|((with_reducible apply aa.u0);(case hx=>first
|(exact mJ kt)
|(exact aq I)
|exact ah))
|fail)
       all_goals first
        |exact aZ (.inr rfl) rfl (by rw[v (by omega)];rfl)
        |exact⟨k+1+1,rfl,rfl,⟨by omega,y (by omega)⟩,by omega⟩
   ·
    rw[eT k3,Bool.true_and,<- ag];exact af
end Go.Proofs.YtjolgbkkocjpgaaGreatDoor
