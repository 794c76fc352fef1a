/- The reference's models,part by part,as contracts:. No condition. -/
import Derived.Test.YtgbfedgghjcdcaaGreatDoorND
set_option linter.all false
namespace Go.Proofs.YtgbfedgghjcdcaaGreatDoor
open Go.RowKit
set_option maxRecDepth 100000
set_option maxHeartbeats 16000000
def eV:da ap.P 175=some (67,2):=by kernel_rfl
def CO{m:Md}{n i:Nat}{c:Cn}:jq m n i c=true↔0<=c.na/\c.na <m.dq.length/\((c.kind=0/\c.first=0/\c.size=0/\gR n c.row=true)\/(2*n<=i/\c.kind=1/\k6 m c=true)):=by
 unfold jq;simp only[Bool.and_eq_true,Bool.or_eq_true,decide_eq_true_eq,and_assoc]
def FZ{cs:List Cn}{i:Nat}{r:Int×Int}{A B:Cn}(u:cs[2*i]?=some A)(v:cs[2*i+1]?=some B):lf cs i r=(decide (A.row=rK i r)&&decide (B.row=vo i r)):=by
 unfold lf;rw[List.getD_eq_getElem?_getD,List.getD_eq_getElem?_getD,u,v];rfl
def Gk{m:Md}(hm:cW m)(hv:ce m.aq m.tables=true):Cl ap 99 [.t (di m)] [] (.t (.bool (lP m (dA m.aq m.tables true)))) []:=by
 have aQ:=wV m.cons;have aY:=ru m.dq;have a6:=hm.cons;have y:=hm.dm;have a7:=hm.dq;have ks:=zt hm;have kg:=fun(c:Cn) (hc:c∈m.cons)=>GC (c:=c) hm hv (by have:=y c hc;omega);have hR:=zy m.aq m.tables true;have O:=fun(r:Int×Int) (J:r∈dA m.aq m.tables true)=>GQ J;obtain⟨R,aJ⟩:∃R,dA m.aq m.tables true=R:=⟨_,rfl⟩;rw[aJ]at ks hR O⊢;have a1:=vi R;rw[cO]at ks kg⊢;refine Cl.aE rfl Tryz.func99 rfl rfl rfl ?_;by_cases h0:2*R.length<=m.cons.length/\m.cons.length<=512
 ·
  obtain⟨ag,al⟩:=h0;obtain⟨Y,hY⟩:∃Y,allI (jq m R.length) m.cons=Y:=⟨_,rfl⟩
  have V:lP m R=(bE (lf m.cons) 0 (R.drop 0)&&Y):=by
   unfold lP;rw[decide_eq_true ag,decide_eq_true al,hY];rfl
  rw[V]
  repeat'(first
|(with_reducible first|apply aa.seq|apply aa.block)
|((with_reducible apply aa.text);(try case hm=>exact rfl))
|(with_reducible first|apply aa.skip|apply ai)
|((with_reducible apply aa.ak);(case hc=>exact rfl))
|((with_reducible apply ab.aw);(case hp=>exact ae))
|((with_reducible apply ab.aV);(case hp=>exact ae))
|(with_reducible apply ab.af)
|((with_reducible apply ab.au);(case hW=>exact rfl);(case hx=>exact ac))
|((with_reducible apply ab.u0);(case hx=>first
|((with_reducible apply ah.mul);(case hx|hy=>exact rfl);(case h=>omega))
|(exact dy ks)
|exact ac))
|fail)
  apply aa.aM
  case ho=>exact rfl
  case hp=>exact rfl
  case hl=>exact rfl
  case hs=>exact slt
  refine aI.cd (fun q:Nat=>[(4,.t (.int .i64 (q:Int)))]) (fun _=>[.box false 30 ((cg m).map .t),.row false false 2 (fI R)]) (fun q=>q<=R.length/\bE (lf m.cons) 0 (R.drop 0)=bE (lf m.cons) q (R.drop q)) (fun q=>R.length - q) 0 rfl rfl ⟨by omega,rfl⟩ (fun q I=>?_);obtain⟨h1,h2⟩:=I;rw[h2];rcases Nat.lt_or_ge q R.length with h3|h3
  ·
   obtain⟨r,J⟩:=av h3;have bb:=GB J;obtain⟨b1,b2,b3⟩:=O r (List.mem_of_getElem? J);obtain⟨A,hA⟩:=av (xs:=m.cons) (k:=2*q) (by omega);obtain⟨B,hB⟩:=av (xs:=m.cons) (k:=2*q+1) (by omega);have an:=tw hA;have aB:=tw hB;rw[show 2*q=(2*(q:Int)).toNat by omega]at an;rw[show 2*q+1=(2*(q:Int)+1).toNat by omega]at aB;have aL:=FZ (r:=r) hA hB;have u:=lH (p:=lf m.cons) J;have v:=lI (p:=lf m.cons) J;rw[aL]at u v;have ad:rK q r=⟨[⟨(q:Int),-1⟩],0 - r.1⟩:=by unfold rK;rw[Int.zero_sub]
   have Z:vo q r=⟨[⟨(q:Int),1⟩],r.2⟩:=rfl;rw[ad,Z]at u v;have U:=zL (A:=A.row) (B:=⟨[⟨(q:Int),-1⟩],0 - r.1⟩) (by have:=y A (List.mem_of_getElem? hA);omega) (by simp);have k2:=zL (A:=B.row) (B:=⟨[⟨(q:Int),1⟩],r.2⟩) (by have:=y B (List.mem_of_getElem? hB);omega) (by simp);obtain⟨p1,D⟩:∃p,decide (A.row=⟨[⟨(q:Int),-1⟩],0 - r.1⟩)=p:=⟨_,rfl⟩;obtain⟨p2,G⟩:∃p,decide (B.row=⟨[⟨(q:Int),1⟩],r.2⟩)=p:=⟨_,rfl⟩;rw[D]at U u v;rw[G]at k2 u v
   cases p1 with
   |false=>
    rw[u (by simp),Bool.false_and]
    repeat'(first
|(with_reducible first|apply aa.seq|apply aa.block)
|((with_reducible apply aa.text);(try case hm=>exact rfl))
|((with_reducible apply aa.drawn);(case hm=>exact rfl))
|(with_reducible first|apply aa.skip|apply aa.ret|apply ai|apply ay|apply aO)
|((with_reducible apply aa.am);(case hc=>exact rfl))
|((with_reducible apply ab.ao);(case hp=>exact ae))
|(with_reducible apply ab.af)
|((with_reducible apply ab.gf);(case hW=>exact rfl))
|((with_reducible apply ab.u0);(case hx=>first
|((with_reducible apply ah.nQ);(case hx=>exact rfl);(case h=>omega))
|((with_reducible apply ah.mul);(case hx|hy=>exact rfl);(case h=>omega))
|(exact aj U)
|exact ac))
|fail)
    exact⟨.inr rfl,rfl⟩
   |true=>
    cases p2 with
    |false=>
     rw[u (by simp),Bool.false_and]
     repeat'(first
|(with_reducible first|apply aa.seq|apply aa.block)
|((with_reducible apply aa.text);(try case hm=>exact rfl))
|((with_reducible apply aa.drawn);(case hm=>exact rfl))
|(with_reducible first|apply aa.skip|apply aa.ret|apply ai|apply ay|apply aO)
|((with_reducible apply aa.am);(case hc=>exact rfl))
|((with_reducible apply ab.ao);(case hp=>exact ae))
|(with_reducible apply ab.af)
|((with_reducible apply ab.au);(case hW=>exact rfl);(case hx=>first
|((with_reducible apply ah.mul);(case hx|hy=>exact rfl);(case h=>omega))
|(exact aj k2)
|exact ac))
|((with_reducible apply ab.u0);(case hx=>first
|((with_reducible apply ah.nQ);(case hx=>exact rfl);(case h=>omega))
|((with_reducible apply ah.mul);(case hx|hy=>exact rfl);(case h=>omega))
|(exact aj U)
|exact ac))
|fail)
     exact⟨.inr rfl,rfl⟩
    |true=>
     repeat'(first
|(with_reducible first|apply aa.seq|apply aa.block)
|((with_reducible apply aa.text);(try case hm=>exact rfl))
|((with_reducible apply aa.drawn);(case hm=>exact rfl))
|(with_reducible first|apply aa.skip|apply ai|apply aG)
|((with_reducible apply aa.am);(case hc=>exact rfl))
|((with_reducible apply aa.ak);(case hc=>exact rfl))
|((with_reducible apply ab.ao);(case hp=>exact ae))
|(with_reducible apply ab.af)
|((with_reducible apply ab.au);(case hW=>exact rfl);(case hx=>first
|((with_reducible apply ah.mul);(case hx|hy=>exact rfl);(case h=>omega))
|(exact aj k2)
|exact ac))
|((with_reducible apply ab.u0);(case hx=>first
|((with_reducible apply ah.nQ);(case hx=>exact rfl);(case h=>omega))
|((with_reducible apply ah.mul);(case hx|hy=>exact rfl);(case h=>omega))
|(exact aj U)
|exact ac))
|fail)
     exact⟨q+1,rfl,rfl,⟨by omega,v rfl⟩,by omega⟩
  ·
   rw[jV h3,Bool.true_and,<- hY];have e1:allI (jq m R.length) m.cons=bE (jq m R.length) 0 (m.cons.drop 0):=rfl;rw[e1]
   repeat'(first
|(with_reducible first|apply aa.seq|apply aa.block)
|((with_reducible apply aa.text);(try case hm=>exact rfl))
|(with_reducible first|apply aa.exit|apply ai|apply aA|apply az)
|((with_reducible apply aa.ak);(case hc=>exact rfl))
|((with_reducible apply ab.aw);(case hp=>exact ae))
|(with_reducible apply ab.af)
|((with_reducible apply ab.u0);(case hx=>exact ac))
|fail)
   apply aa.aM
   case ho=>exact rfl
   case hp=>exact rfl
   case hl=>exact rfl
   case hs=>exact slt
   refine aI.cd (fun q:Nat=>[(7,.t (.int .i64 (q:Int)))]) (fun _=>[.box false 30 ((cg m).map .t),.row false false 2 (fI R)]) (fun q=>q<=m.cons.length/\bE (jq m R.length) 0 (m.cons.drop 0)=bE (jq m R.length) q (m.cons.drop q)) (fun q=>m.cons.length - q) 0 rfl rfl ⟨by omega,rfl⟩ (fun q I=>?_);obtain⟨g1,g2⟩:=I;rw[g2];rcases Nat.lt_or_ge q m.cons.length with g3|g3
   ·
    obtain⟨c,hc⟩:=av g3;have aN:=tw hc;have z:=List.mem_of_getElem? hc;have kr:=zK (n:=(R.length:Int)) (r:=c.row) (by have:=y c z;omega);have Q:=kg c z;have u:=lH (p:=jq m R.length) hc;have v:=lI (p:=jq m R.length) hc;rw[CO]at u v;obtain⟨p1,D⟩:∃p,gR R.length c.row=p:=⟨_,rfl⟩;obtain⟨p2,G⟩:∃p,k6 m c=p:=⟨_,rfl⟩;rw[D]at kr u v;rw[G]at Q u v;cases p1 <;>cases p2 <;>simp only[and_true,Bool.false_eq_true,and_false,or_false,false_or]at u v
    all_goals
     repeat'(first
|(with_reducible first|apply aa.seq|apply aa.block)
|((with_reducible apply aa.text);(try case hm=>exact rfl))
|(with_reducible first|apply aa.skip|apply aa.ret|apply ai|apply ay|apply aG|apply aO)
|((with_reducible apply aa.am);(case hc=>exact rfl))
|((with_reducible apply aa.ak);(case hc=>exact rfl))
|((with_reducible apply ab.ao);(case hp=>exact ae))
|((with_reducible apply ab.aU)<;>intro I)
|((with_reducible apply ab.aV);(case hp=>exact ae))
|((with_reducible apply ab.a_)<;>intro I)
|(with_reducible apply ab.af)
|((with_reducible apply ab.gf);(case hW=>exact rfl))
|((with_reducible apply ab.au);(case hW=>exact rfl);(case hx=>first
|((with_reducible apply ah.mul);(case hx|hy=>exact rfl);(case h=>omega))
|(exact aj kr)
|(exact aj Q)
|exact ac))
|((with_reducible apply ab.u0);(case hx=>exact ac))
|fail)
     all_goals first
      |exact aS (.inr rfl) rfl (by rw[u (by first|omega|(intro h;exact h))])
      |exact⟨q+1,rfl,rfl,⟨by omega,v (by omega)⟩,by omega⟩
   ·
    rw[jV g3]
    repeat'(first
|(with_reducible apply aa.seq)
|((with_reducible apply aa.text);(try case hm=>exact rfl))
|(with_reducible first|apply aa.exit|apply aa.ret|apply ai|apply aA|apply az)
|((with_reducible apply aa.ak);(case hc=>exact rfl))
|((with_reducible apply ab.aw);(case hp=>exact ae))
|(with_reducible apply ab.af)
|((with_reducible apply ab.u0);(case hx=>exact ac))
|fail)
    exact⟨.inr rfl,rfl⟩
 ·
  have V:lP m R=false:=by
   rw[<- Bool.not_eq_true];unfold lP;simp only[Bool.and_eq_true,decide_eq_true_eq];exact fun h=>h0 h.1
  rw[V]
  repeat'(first
|(with_reducible apply aa.seq)
|((with_reducible apply aa.text);(try case hm=>exact rfl))
|(with_reducible first|apply aa.ret|apply ay)
|((with_reducible apply aa.am);(case hc=>exact rfl))
|((with_reducible apply ab.aU)<;>intro I)
|((with_reducible apply ab.bh);(case hp=>exact ae))
|(with_reducible apply ab.af)
|((with_reducible apply ab.gf);(case hW=>exact rfl))
|((with_reducible apply ab.au);(case hW=>exact rfl);(case hx=>exact ac))
|((with_reducible apply ab.u0);(case hx=>first
|((with_reducible apply ah.mul);(case hx|hy=>exact rfl);(case h=>omega))
|(exact dy ks)
|exact ac))
|fail)
  all_goals first
   |exact⟨.inr rfl,rfl⟩
   |(exfalso;omega)
end Go.Proofs.YtgbfedgghjcdcaaGreatDoor
