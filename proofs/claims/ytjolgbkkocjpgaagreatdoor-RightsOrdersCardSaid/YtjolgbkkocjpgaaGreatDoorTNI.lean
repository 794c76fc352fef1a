/- The reference's guard of small models and events,as a contract. No condition. -/
import Derived.Test.YtjolgbkkocjpgaaGreatDoorTNF
import Derived.Test.YtjolgbkkocjpgaaGreatDoorTKC
import Derived.Test.YtjolgbkkocjpgaaGreatDoorTM
set_option linter.defProp false
set_option linter.unusedSimpArgs false
set_option linter.unusedVariables false
set_option linter.unusedSectionVars false
namespace Go.Proofs.YtjolgbkkocjpgaaGreatDoor
open Go.RowKit
set_option maxRecDepth 100000
set_option maxHeartbeats 32000000
def pA(n:Int)(c:bD):Bool:=decide (0<=c.cell)&&decide (c.cell <n)
def n_(n:Int)(u:cD):Bool:=decide (0<=u.cell)&&decide (u.cell <n)
def jC(s g:Int)(a:eD):Bool:=((decide (a.eff.delta.length<=20)&&decide (a.eff.hold.length<=8))&&decide (a.eff.bZ.length<=20))&&(a.eff.delta.all (pA s)&&a.eff.bZ.all (n_ g))
def l_(e:Ev):Bool:=decide (e.past.length<=8)
def sU(m:Md)(l:List Ev):Prop:=m.ak.length<=4/\m.tables.length<=12/\m.cons.length<=80/\m.ops.length<=8/\m.ay.length<=30/\l.length<=60
instance (m:Md) (l:List Ev):Decidable (sU m l):=by unfold sU;infer_instance
def jD(m:Md)(l:List Ev):Bool:=decide (sU m l)&&(cm m&&(m.ay.all (jC (bn m.ak true m.tables) (kZ m.ak m.tables).length)&&(l.all l_&&(decide (bn m.ak true m.tables<=40)&&decide ((kZ m.ak m.tables).length<=20)))))
theorem qU{m:Md}(h:cm m=true):bH m.ak m.tables=true:=by
 unfold cm at h;simp only[Bool.and_eq_true]at h;exact h.1.1.1
def NP{m:Md}{l:List Ev}(hm:bt m)(ag:∀a∈m.ay,iC a.eff)(hl:l.length<=140737488351232)(hp:∀e∈l,e.past.length<=140737488351232):Cl ai 27 [.t (bz m),.t (.arr (bL l))] [] (.t (.bool (jD m l))) []:=by
 have bI:=aQ m.ak;have bw:=e9 m.tables;have be:=qJ m.cons;have bF:=pt m.ops;have bd:=jx m.ay;have bj:=nc l;by_cases I:sU m l
 ·
  have ab:=I;obtain⟨a1,a2,a3,a4,a5,a6⟩:=ab;have kv:=NH hm ag (by omega)
  cases V:cm m with
  |false=>
   have D:jD m l=false:=by unfold jD;rw[V,decide_eq_true I];rfl
   rw[V]at kv;rw[aW]at kv⊢;rw[D];refine Cl.ao rfl Tryz.func27 rfl rfl rfl ?_;exact af
  |true=>
   have v:=qU V;have aS:=ph v;have k1:=NI hm v;have k2:=NK hm v;have ad:=CS v;have al:=ES m.ak m.tables;have aR:=jT (S:=m.ak) true m.tables;obtain⟨s,hs⟩:∃s,bn m.ak true m.tables=s:=⟨_,rfl⟩;obtain⟨G,hG⟩:∃G,kZ m.ak m.tables=G:=⟨_,rfl⟩;have bl:=e9 G;obtain⟨Y1,J⟩:∃Y,l.all l_=Y:=⟨_,rfl⟩;obtain⟨Y2,U⟩:∃Y,(decide (s<=40)&&decide (G.length<=20))=Y:=⟨_,rfl⟩;have D:jD m l=((m.ay.drop 0).all (jC s G.length)&&(Y1&&Y2)):=by unfold jD;rw[V,decide_eq_true I,hs,hG,J,U];rfl
   rw[V]at kv;rw[hs]at k1 ad aR;rw[hG]at k2 al;rw[aW]at kv k1 k2⊢;rw[D];refine Cl.ao rfl Tryz.func27 rfl rfl rfl ?_;refine ar ?_;refine aC.ind (fun q:Nat=>[(5,.t (.int .i64 (q:Int)))]) (fun q=>q<=m.ak.length) (fun q=>m.ak.length - q) 0 rfl (by omega) (fun q y=>?_);rcases Nat.lt_or_ge q m.ak.length with h3|h3
   ·
    obtain⟨n,hn⟩:=am h3;have hc:=aU hn;obtain⟨n1,n2⟩:=CN aS hn;exact af
   ·
    refine ar ?_;refine aC.ind (fun q:Nat=>[(6,.t (.int .i64 (q:Int)))]) (fun q=>q<=m.tables.length) (fun q=>m.tables.length - q) 0 rfl (by omega) (fun q y=>?_);rcases Nat.lt_or_ge q m.tables.length with g3|g3
    ·
     obtain⟨t,ht⟩:=am g3;have hc:=eK ht;have b0:=aQ t.au;obtain⟨c1,c2,c3⟩:=jp v ht;obtain⟨r1,r2,r3⟩:=CU v ht
     have aL:0<=t.kind/\t.kind<=5:=by
      have h1:=qv v ht;simp only[gS,Bool.and_eq_true,decide_eq_true_eq]at h1;exact h1.2.2.1
     obtain⟨k3,k4⟩:=aL;exact af
    ·
     refine ar ?_;refine aC.ind (fun q:Nat=>[(9,.t (.int .i64 (q:Int)))]) (fun q=>q<=m.ay.length/\(m.ay.drop 0).all (jC s G.length)=(m.ay.drop q).all (jC s G.length)) (fun q=>m.ay.length - q) 0 rfl ⟨by omega,rfl⟩ (fun q y=>?_);obtain⟨p1,p2⟩:=y;rw[p2];rcases Nat.lt_or_ge q m.ay.length with p3|p3
     ·
      obtain⟨a,ha⟩:=am p3;have a_:=jZ ha;have bf:=sI a.eff.delta;have bm:=vD a.eff.hold;have bN:=zg a.eff.bZ;have aw:=iO (jC s G.length) ha;rw[aw];obtain⟨Z,hZ⟩:∃Z,(m.ay.drop (q+1)).all (jC s G.length)=Z:=⟨_,rfl⟩;rw[hZ];by_cases z:a.eff.delta.length<=20/\a.eff.hold.length<=8/\a.eff.bZ.length<=20
      ·
       obtain⟨l1,l2,l3⟩:=z;obtain⟨X,hX⟩:∃X,a.eff.bZ.all (n_ G.length)=X:=⟨_,rfl⟩;have e1:jC s G.length a=((a.eff.delta.drop 0).all (pA s)&&X):=by unfold jC;rw[hX,decide_eq_true l1,decide_eq_true l2,decide_eq_true l3];rfl
       rw[e1];refine ar ?_;refine aC.ind (fun k:Nat=>[(11,.t (.int .i64 (k:Int)))]) (fun k=>k<=a.eff.delta.length/\(a.eff.delta.drop 0).all (pA s)=(a.eff.delta.drop k).all (pA s)) (fun k=>a.eff.delta.length - k) 0 rfl ⟨by omega,rfl⟩ (fun k hk=>?_);obtain⟨g1,g2⟩:=hk;rw[g2];rcases Nat.lt_or_ge k a.eff.delta.length with g4|g4
       ·
        obtain⟨c,hc⟩:=am g4;have bb:=qM hc;have an:=iO (pA s) hc;rw[an];unfold pA
        repeat'(first
|(with_reducible first|apply ac.seq|apply ac.block)
|((with_reducible apply ac.text);(try case hm=>exact rfl))
|(with_reducible first|apply ac.skip|apply ac.ret|apply az|apply aV|apply bk|apply bq)
|((with_reducible apply ac.aA);(case hc=>exact rfl))
|((with_reducible apply ac.aH);(case hc=>exact rfl))
|((with_reducible apply aa.aE);(case hp=>exact aj))
|((with_reducible apply aa.bc)<;>intro y)
|((with_reducible apply aa.bg)<;>intro y)
|(with_reducible apply aa.ap)
|((with_reducible apply aa.gf);(case hW=>exact rfl))
|((with_reducible apply aa.aD);(case hW=>exact rfl);(case hx=>exact ah))
|((with_reducible apply aa.u0);(case hx=>exact ah))
|fail)
        all_goals first
         |exact⟨k+1,rfl,rfl,⟨by omega,by rw[decide_eq_true (show 0<=c.cell by omega),decide_eq_true (show c.cell <s by omega)];rfl⟩,by omega⟩
         |exact aZ (.inr rfl) rfl (by rw[decide_eq_false (show¬0<=c.cell by omega)];rfl)
         |exact aZ (.inr rfl) rfl (by rw[decide_eq_false (show¬c.cell <s by omega),Bool.and_false];rfl)
       ·
        rw[gR _ g4,Bool.true_and,<- hX];have e2:a.eff.bZ.all (n_ G.length)=(a.eff.bZ.drop 0).all (n_ G.length):=rfl;rw[e2];refine ar ?_;refine aC.ind (fun k:Nat=>[(12,.t (.int .i64 (k:Int)))]) (fun k=>k<=a.eff.bZ.length/\(a.eff.bZ.drop 0).all (n_ G.length)=(a.eff.bZ.drop k).all (n_ G.length)) (fun k=>a.eff.bZ.length - k) 0 rfl ⟨by omega,rfl⟩ (fun k hk=>?_);obtain⟨g1,g2⟩:=hk;rw[g2];rcases Nat.lt_or_ge k a.eff.bZ.length with g5|g5
        ·
         obtain⟨u,hu⟩:=am g5;have b1:=sJ hu;have aI:=iO (n_ G.length) hu;rw[aI];unfold n_
         repeat'(first
|(with_reducible first|apply ac.seq|apply ac.block)
|((with_reducible apply ac.text);(try case hm=>exact rfl))
|(with_reducible first|apply ac.skip|apply ac.ret|apply az|apply aV|apply bk|apply bq)
|((with_reducible apply ac.aA);(case hc=>exact rfl))
|((with_reducible apply ac.aH);(case hc=>exact rfl))
|((with_reducible apply aa.aE);(case hp=>exact aj))
|((with_reducible apply aa.bc)<;>intro y)
|((with_reducible apply aa.bg)<;>intro y)
|(with_reducible apply aa.ap)
|((with_reducible apply aa.gf);(case hW=>exact rfl))
|((with_reducible apply aa.aD);(case hW=>exact rfl);(case hx=>exact ah))
|((with_reducible apply aa.u0);(case hx=>exact ah))
|fail)
         all_goals first
          |exact⟨k+1,rfl,rfl,⟨by omega,by rw[decide_eq_true (show 0<=u.cell by omega),decide_eq_true (show u.cell <G.length by omega)];rfl⟩,by omega⟩
          |exact aZ (.inr rfl) rfl (by rw[decide_eq_false (show¬0<=u.cell by omega)];rfl)
          |exact aZ (.inr rfl) rfl (by rw[decide_eq_false (show¬u.cell <G.length by omega),Bool.and_false];rfl)
        ·
         rw[gR _ g5,Bool.true_and];refine ar ?_;exact⟨q+1,rfl,rfl,⟨by omega,hZ.symm⟩,by omega⟩
      ·
       have e1:jC s G.length a=false:=by
        rw[<- Bool.not_eq_true];unfold jC;simp only[Bool.and_eq_true,decide_eq_true_eq];exact fun h=>z ⟨h.1.1.1,h.1.1.2,h.1.2⟩
       rw[e1]
       repeat'(first
|(with_reducible first|apply ac.seq|apply ac.block)
|((with_reducible apply ac.text);(try case hm=>exact rfl))
|(with_reducible first|apply ac.skip|apply ac.ret|apply az|apply aV|apply bq)
|((with_reducible apply ac.aA);(case hc=>exact rfl))
|((with_reducible apply aa.aE);(case hp=>exact aj))
|((with_reducible apply aa.bc)<;>intro y)
|((with_reducible apply aa.cd);(case hp=>exact aj))
|((with_reducible apply aa.bg)<;>intro y)
|(with_reducible apply aa.ap)
|((with_reducible apply aa.gf);(case hW=>exact rfl))
|((with_reducible apply aa.aD);(case hW=>exact rfl);(case hx=>exact ah))
|((with_reducible apply aa.u0);(case hx=>exact ah))
|fail)
       all_goals first
        |exact⟨.inr rfl,rfl⟩
        |(exfalso;omega)
     ·
      rw[gR _ p3,Bool.true_and,<- J];have e2:l.all l_=(l.drop 0).all l_:=rfl;rw[e2];refine ar ?_;refine aC.ind (fun q:Nat=>[(13,.t (.int .i64 (q:Int)))]) (fun q=>q<=l.length/\(l.drop 0).all l_=(l.drop q).all l_) (fun q=>l.length - q) 0 rfl ⟨by omega,rfl⟩ (fun q y=>?_);obtain⟨h1,h2⟩:=y;rw[h2];rcases Nat.lt_or_ge q l.length with h4|h4
      ·
       obtain⟨e,he⟩:=am h4;have hc:=qS he;have bO:=aQ e.past;have ha:=iO l_ he;rw[ha];by_cases h8:e.past.length<=8
       ·
        rw[show l_ e=true from decide_eq_true h8];exact af
       ·
        rw[show l_ e=false from decide_eq_false h8];exact af
      ·
       rw[gR _ h4,Bool.true_and,<- U]
       repeat'(first
|(with_reducible apply ac.seq)
|((with_reducible apply ac.text);(try case hm=>exact rfl))
|(with_reducible first|apply ac.exit|apply ac.ret|apply az|apply cR|apply cS)
|((with_reducible apply ac.aH);(case hc=>exact rfl))
|((with_reducible apply aa.bC);(case hp=>exact aj))
|((with_reducible apply aa.bc)<;>intro y)
|((with_reducible apply aa.bg)<;>intro y)
|(with_reducible apply aa.ap)
|((with_reducible apply aa.gf);(case hW=>exact rfl))
|((with_reducible apply aa.aD);(case hW=>exact rfl);(case hx=>exact ah))
|((with_reducible apply aa.u0);(case hx=>exact ah))
|fail)
       all_goals(refine aZ (.inr rfl) rfl ?_;simp;omega)
 ·
  have D:jD m l=false:=by unfold jD;rw[decide_eq_false I];rfl
  have h1:¬(m.ak.length<=4/\m.tables.length<=12/\m.cons.length<=80/\m.ops.length<=8/\m.ay.length<=30/\l.length<=60):=I;rw[aW,D];refine Cl.ao rfl Tryz.func27 rfl rfl rfl ?_
  repeat'(first
|(with_reducible apply ac.seq)
|((with_reducible apply ac.text);(try case hm=>exact rfl))
|(with_reducible first|apply ac.ret|apply aV)
|((with_reducible apply ac.aA);(case hc=>exact rfl))
|((with_reducible apply aa.bc)<;>intro y)
|((with_reducible apply aa.cd);(case hp=>exact aj))
|((with_reducible apply aa.bg)<;>intro y)
|(with_reducible apply aa.ap)
|((with_reducible apply aa.gf);(case hW=>exact rfl))
|((with_reducible apply aa.aD);(case hW=>exact rfl);(case hx=>exact ah))
|((with_reducible apply aa.u0);(case hx=>exact ah))
|fail)
  all_goals first
   |exact⟨.inr rfl,rfl⟩
   |(exfalso;omega)
def iV(m:Md)(n:Int)(e:Ev):Bool:=dK e&&(decide ((e.past.length:Int)=n)&&(!decide (e.k=0)||decide (e.a <m.ay.length)))
def EU{m:Md}(hm:bt m)(n:Int)(e:Ev)(he:e.past.length<=140737488351232):Cl ai 76 [.t (bz m),.t (.int .i64 n),.t (cV e)] [] (.t (.bool (iV m n e))) []:=by
 have D:=KO e he;have y:=jx m.ay;have z:=aQ e.past;rw[aW];refine Cl.ao rfl Tryz.func76 rfl rfl rfl ?_;obtain⟨b,u⟩:∃b,dK e=b:=⟨_,rfl⟩;have v:iV m n e=(b&&(decide ((e.past.length:Int)=n)&&(!decide (e.k=0)||decide (e.a <m.ay.length)))):=by unfold iV;rw[u]
 rw[u]at D;rw[v]
 cases b with
 |false=>
  exact af
 |true=>
  exact af
section
variable {g:Cfg} {d:Option (List Nat)} {env:Env} {fr:Fr} {i:Nat}
end
end Go.Proofs.YtjolgbkkocjpgaaGreatDoor
