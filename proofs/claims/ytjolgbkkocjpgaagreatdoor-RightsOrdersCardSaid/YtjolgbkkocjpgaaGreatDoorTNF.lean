/- The reference's models,part by part,as contracts: operations and actions. No condition. -/
import Derived.Test.YtjolgbkkocjpgaaGreatDoorTNB
import Derived.Test.YtjolgbkkocjpgaaGreatDoorTS
set_option linter.defProp false
set_option linter.unusedSimpArgs false
set_option linter.unusedVariables false
set_option linter.unusedSectionVars false
namespace Go.Proofs.YtjolgbkkocjpgaaGreatDoor
open Go.RowKit
set_option maxRecDepth 100000
set_option maxHeartbeats 32000000
def NF{m:Md}{o:gq}:dU m o=((o.ak.drop 0).all (fun s=>decide (-1<=s)&&decide (s <m.ak.length))&&decide (o.ak.length<=3)):=rfl
def EJ{m:Md}{o:gq}(h:dU m o=true){k:Nat}{s:Int}(hs:o.ak[k]?=some s): -1<=s/\s <m.ak.length:=by
 unfold dU at h;simp only[Bool.and_eq_true]at h;have:=List.all_eq_true.1 h.1 s (List.mem_of_getElem? hs);simpa using this
def EK{m:Md}{s a:Int}(h:s <0):jS m s a=cE a 9999:=by unfold jS;rw[if_pos h]
def EL{m:Md}{s a n:Int}(h:0<=s)(hn:m.ak[s.toNat]?=some n):jS m s a=(decide (0<=a)&&decide (a <n)):=by unfold jS;rw[if_neg (by omega),eR hn]
def EM{m:Md}{n:Int}{i:Nat}{a b:eD}{o:gq}(h0:0<=a.op)(h1:a.op <m.ops.length)(ho:m.ops[a.op.toNat]?=some o)(hb:m.ay.getD (i - 1) fk=b):dB m n i a=((decide (a.args.length=o.ak.length)&&aY (fun k x=>jS m (o.ak.getD k 0) x) 0 (a.args.drop 0))&&
  ((decide (i=0)||(decide (b.op <a.op)||(decide (b.op=a.op)&&iu b.args a.args)))&&kW m n a.eff)):=by
 have e:m.ops.getD a.op.toNat si=o:=by rw[List.getD_eq_getElem?_getD,ho];rfl
 unfold dB;rw[e,hb,decide_eq_true h0,decide_eq_true h1];rfl
def EN{m:Md}{n:Int}{i:Nat}{a:eD}(h:¬(0<=a.op/\a.op <m.ops.length)):dB m n i a=false:=by
 rw[<- Bool.not_eq_true];intro u;unfold dB at u;simp only[Bool.and_eq_true,decide_eq_true_eq]at u;exact h u.1.1.1
def NG{m:Md}(hm:bt m)(hv:bH m.ak m.tables=true)(bj:∀a∈m.ay,iC a.eff)(G:m.ops.length<=4398046511104):Cl ai 88 [.t (bz m)] [] (.t (.bool (pg m (bx m.ak m.tables true).length))) []:=by
 have c0:=pt m.ops;have cN:=jx m.ay;have c4:=aQ m.ak;have dr:=hm.ops;have ad:=hm.sK;have dj:=hm.ay;have V:=hm.args;have cl:=iQ hv;have ke:=fun(a:eD) (ha:a∈m.ay)=>NE hm (bj a ha);obtain⟨n,hn⟩:∃n,(bx m.ak m.tables true).length=n:=⟨_,rfl⟩;rw[hn]at ke⊢;obtain⟨Y1,aw⟩:∃Y,(decide (m.ops.length<=8)&&(gu (m.ops.map (·.name))&&decide (m.ay.length<=256)))=Y:=⟨_,rfl⟩;obtain⟨Y2,aI⟩:∃Y,allI (dB m n) m.ay=Y:=⟨_,rfl⟩;have e0:pg m n=(((m.ops.drop 0).all (dU m)&&Y1)&&Y2):=by rw[<- aw,<- aI];rfl
 have kd:=Ef (L:=m.ops.map (·.name)) (by simp;omega);rw[e0];rw[aW]at ke⊢;refine Cl.ao rfl Tryz.func88 rfl rfl rfl ?_;refine ar ?_;refine aC.cB (fun x:Nat×Bool=>[(3,.ls 1),(4,.t (.int .i64 (x.1:Int)))]) (fun x=>[.box false 30 ((dW m).map .t),.row false x.2 1 (b5 ((m.ops.take x.1).map (·.name)))]) (fun x=>x.1<=m.ops.length/\(m.ops.drop 0).all (dU m)=(m.ops.drop x.1).all (dU m)/\(m.ops.take x.1).all (dU m)=true) (fun x=>m.ops.length - x.1) (0,false) rfl rfl ⟨by dsimp only;omega,rfl,by simp⟩ (fun x I=>?_);obtain⟨q,d_⟩:=x;dsimp only at I⊢;obtain⟨h1,h2,au⟩:=I;rw[h2];rcases Nat.lt_or_ge q m.ops.length with h3|h3
 ·
  obtain⟨o,ho⟩:=am h3;have b0:=qL ho;have b1:=ad o (List.mem_of_getElem? ho);have bO:=aQ o.ak;have bI:=iO (dU m) ho
  have b3:b5 ((m.ops.take q).map (·.name))++[[.str o.name]]=b5 ((m.ops.take (q+1)).map (·.name)):=by
   rw[List.take_add_one,ho];simp[b5]
  have bN:ca ((b5 ((m.ops.take q).map (·.name))).length+1) 16=true:=by
   rw[mY];simp[ca];omega
  have e1:=NF (m:=m) (o:=o);obtain⟨f,hf⟩:∃f:Int->Bool,(fun s:Int=>decide (-1<=s)&&decide (s <m.ak.length))=f:=⟨_,rfl⟩;rw[hf]at e1;obtain⟨Z,hZ⟩:∃Z,(m.ops.drop (q+1)).all (dU m)=Z:=⟨_,rfl⟩;rw[bI,hZ,e1]
  repeat'(first
|(with_reducible first|apply ac.seq|apply ac.block)
|((with_reducible apply ac.text);(try case hm=>exact rfl))
|(with_reducible first|apply ac.skip|apply az)
|((with_reducible apply ac.aA);(case hc=>exact rfl))
|((with_reducible apply aa.aE);(case hp=>exact aj))
|(with_reducible apply aa.ap)
|((with_reducible apply aa.u);(case hx=>((with_reducible apply ae.eP);(case hs=>exact fun _=>rfl);(case ha|ht=>exact rfl);(case hr=>first|(with_reducible exact eH)|(with_reducible exact rw1)|(with_reducible exact eI)|(with_reducible exact rw3)|(with_reducible exact rw4)|exact rfl);(case hx|hy|hn|hb|hok=>exact rfl);(case hlen=>exact bN);(case hv=>exact b3);(case hk=>exact eQ);(case hf=>exact leq))))
|((with_reducible apply aa.u0);(case hx=>exact ah))
|fail)
  apply ac.kQ
  case ho=>exact rfl
  case hp=>exact rfl
  case hl=>exact rfl
  case hs=>exact slt
  refine aC.ind (fun k:Nat=>[(6,.t (.int .i64 (k:Int)))]) (fun k=>k<=o.ak.length/\(o.ak.drop 0).all f=(o.ak.drop k).all f) (fun k=>o.ak.length - k) 0 rfl ⟨by omega,rfl⟩ (fun k hk=>?_);obtain⟨g1,U⟩:=hk;rw[U];rcases Nat.lt_or_ge k o.ak.length with g3|g3
  ·
   obtain⟨s,hs⟩:=am g3;have b2:=aU hs;have b4:=iO f hs;have bw:f s=(decide (-1<=s)&&decide (s <m.ak.length)):=by rw[<- hf]
   rw[b4,bw]
   repeat'(first
|(with_reducible first|apply ac.seq|apply ac.block)
|((with_reducible apply ac.text);(try case hm=>exact rfl))
|((with_reducible apply ac.drawn);(case hm=>exact rfl))
|(with_reducible first|apply ac.skip|apply ac.ret|apply az|apply aV|apply bk|apply bq)
|((with_reducible apply ac.aA);(case hc=>exact rfl))
|((with_reducible apply ac.aH);(case hc=>exact rfl))
|((with_reducible apply aa.aE);(case hp=>exact aj))
|((with_reducible apply aa.bc)<;>intro I)
|((with_reducible apply aa.bg)<;>intro I)
|(with_reducible apply aa.ap)
|((with_reducible apply aa.gf);(case hW=>exact rfl))
|((with_reducible apply aa.aD);(case hW=>exact rfl);(case hx=>exact ah))
|((with_reducible apply aa.u0);(case hx=>exact ah))
|fail)
   all_goals first
    |exact⟨k+1,rfl,rfl,⟨by omega,by rw[decide_eq_true (show -1<=s by omega),decide_eq_true (show s <m.ak.length by omega)];rfl⟩,by omega⟩
    |exact aZ (.inr rfl) rfl (by rw[decide_eq_false (show¬ -1<=s by omega)];rfl)
    |exact aZ (.inr rfl) rfl (by rw[decide_eq_false (show¬s <m.ak.length by omega),Bool.and_false];rfl)
  ·
   rw[gR _ g3,Bool.true_and];by_cases g4:o.ak.length<=3
   ·
    have al:dU m o=true:=by rw[e1,U,gR _ g3,decide_eq_true g4];rfl
    rw[decide_eq_true g4,Bool.true_and];refine ar ?_;exact⟨(q+1,true),rfl,rfl,⟨by dsimp only;omega,by dsimp only;exact hZ.symm,sC au ho al⟩,by dsimp only;omega⟩
   ·
    rw[decide_eq_false g4];exact af
 ·
  rw[gR _ h3,Bool.true_and];have aR:∀o∈m.ops,dU m o=true:=fun o ho=>List.all_eq_true.1 (vx au h3) o ho;rw[List.take_of_length_le h3,<- aw];obtain⟨d,hd⟩:∃d,gu (m.ops.map (·.name))=d:=⟨_,rfl⟩;rw[hd]at kd⊢;by_cases h8:m.ops.length<=8/\d=true/\m.ay.length<=256
  ·
   obtain⟨a1,rfl,a6⟩:=h8;rw[decide_eq_true a1,decide_eq_true a6];rw[show(true&&(true&&true))=true by rfl,Bool.true_and,<- aI];have e2:allI (dB m n) m.ay=aY (dB m n) 0 (m.ay.drop 0):=rfl;rw[e2];refine ar ?_;refine aC.ind (fun q:Nat=>[(7,.t (.int .i64 (q:Int)))]) (fun q=>q<=m.ay.length/\aY (dB m n) 0 (m.ay.drop 0)=aY (dB m n) q (m.ay.drop q)) (fun q=>m.ay.length - q) 0 rfl ⟨by omega,rfl⟩ (fun q I=>?_);obtain⟨k1,k2⟩:=I;rw[k2];rcases Nat.lt_or_ge q m.ay.length with k3|k3
   ·
    obtain⟨a,ha⟩:=am k3;have cF:=jZ ha;have ab:=List.mem_of_getElem? ha;have cf:=ke a ab;have dd:=aQ a.args;have cp:=V a ab;have y:=gz (p:=dB m n) ha;have hok:=gA (p:=dB m n) ha;by_cases G:0<=a.op/\a.op <m.ops.length
    ·
     obtain⟨o,ho⟩:=am (xs:=m.ops) (k:=a.op.toNat) (by omega);have b0:=qL ho;have al:=aR o (List.mem_of_getElem? ho);have bO:=aQ o.ak;have b1:=ad o (List.mem_of_getElem? ho);obtain⟨b,hb⟩:∃b,m.ay.getD (q - 1) fk=b:=⟨_,rfl⟩;have v:=EM (m:=m) (n:=n) (i:=q) (a:=a) (b:=b) (o:=o) G.1 G.2 ho hb;obtain⟨o1,o2⟩:=G;by_cases aL:a.args.length=o.ak.length
     ·
      rw[decide_eq_true aL,Bool.true_and]at v;obtain⟨f,hf⟩:∃f:Nat->Int->Bool,(fun k x=>jS m (o.ak.getD k 0) x)=f:=⟨_,rfl⟩;rw[hf]at v;refine ar ?_;refine aC.ind (fun k:Nat=>[(9,.t (.int .i64 (k:Int)))]) (fun k=>k<=a.args.length/\aY f 0 (a.args.drop 0)=aY f k (a.args.drop k)) (fun k=>a.args.length - k) 0 rfl ⟨by omega,rfl⟩ (fun k hk=>?_);obtain⟨g1,U⟩:=hk;rcases Nat.lt_or_ge k a.args.length with g3|g3
      ·
       obtain⟨x,hx⟩:=am g3;have dS:=aU hx;obtain⟨s,hs⟩:=am (xs:=o.ak) (k:=k) (by omega);have b2:=aU hs;obtain⟨s1,s2⟩:=EJ al hs;have z:=gz (p:=f) hx;have D:=gA (p:=f) hx;have bm:f k x=jS m s x:=by rw[<- hf];dsimp only;rw[eR hs]
       rw[bm]at z D;rcases Int.lt_or_le s 0 with an|an
       ·
        rw[EK an]at z D;have kb:=MD x;obtain⟨bb,a_⟩:∃bb,cE x 9999=bb:=⟨_,rfl⟩;rw[a_]at kb z D
        cases bb with
        |false=>
         rw[y (by rw[v,U,z (by decide)];simp)];exact af
        |true=>
         refine ar ?_;exact⟨k+1,rfl,rfl,⟨by omega,by rw[U];exact D rfl⟩,by omega⟩
       ·
        obtain⟨N,hN⟩:=am (xs:=m.ak) (k:=s.toNat) (by omega);have cA:=aU hN;rw[EL an hN]at z D;by_cases aS:0<=x/\x <N
        ·
         obtain⟨r1,r2⟩:=aS;refine ar ?_;exact⟨k+1,rfl,rfl,⟨by omega,by rw[U];exact D (by rw[decide_eq_true r1,decide_eq_true r2];rfl)⟩,by omega⟩
        ·
         have ag:(decide (0<=x)&&decide (x <N))=false:=by rw[<- Bool.not_eq_true];simpa using aS
         rw[y (by rw[v,U,z (by rw[ag];decide)];simp)]
         repeat'(first
|(with_reducible first|apply ac.seq|apply ac.block)
|((with_reducible apply ac.text);(try case hm=>exact rfl))
|((with_reducible apply ac.drawn);(case hm=>exact rfl))
|(with_reducible first|apply ac.skip|apply ac.ret|apply az|apply aV|apply bq)
|((with_reducible apply ac.aA);(case hc=>exact rfl))
|((with_reducible apply aa.aE);(case hp=>exact aj))
|((with_reducible apply aa.bC);(case hp=>exact aj))
|((with_reducible apply aa.cd);(case hp=>exact aj))
|((with_reducible apply aa.bg)<;>intro I)
|(with_reducible apply aa.ap)
|((with_reducible apply aa.gf);(case hW=>exact rfl))
|((with_reducible apply aa.aD);(case hW=>exact rfl);(case hx=>exact ah))
|((with_reducible apply aa.u0);(case hx=>exact ah))
|fail)
         all_goals first
          |exact⟨.inr rfl,rfl⟩
          |(exfalso;omega)
      ·
       rw[U,eT g3,Bool.true_and]at v;obtain⟨be,bd⟩:∃be,kW m n a.eff=be:=⟨_,rfl⟩;rw[bd]at cf v
       cases q with
       |zero=>
        rw[decide_eq_true (show(0:Nat)=0 by rfl),Bool.true_or,Bool.true_and]at v
        cases be with
        |false=>
         rw[y (by rw[v];decide)];exact af
        |true=>
         refine ar ?_;exact⟨0+1,rfl,rfl,⟨by omega,hok v⟩,by omega⟩
       |succ p=>
        obtain⟨w,hw⟩:=am (xs:=m.ay) (k:=p) (by omega);have cc:=jZ hw;have ct:(de m.ay)[((p+1:Nat) - 1:Int).toNat]?=some [.int .i64 w.op,ax w.args,.arr (iS w.eff.delta),.arr (iz w.eff.hold),.arr (iA w.eff.bZ)]:=by rw[show((p+1:Nat) - 1:Int).toNat=p by omega];exact cc
        have bF:m.ay.getD (p+1 - 1) fk=w:=by rw[Nat.add_sub_cancel,List.getD_eq_getElem?_getD,hw];rfl
        obtain rfl:w=b:=by rw[<- bF,hb]
        have df:=aQ w.args;have ch:=MP (A:=w.args) (B:=a.args) (by have:=V w (List.mem_of_getElem? hw);omega) (by omega);rw[decide_eq_false (show¬p+1=0 by omega),Bool.false_or]at v;obtain⟨bl,bf⟩:∃bl,iu w.args a.args=bl:=⟨_,rfl⟩;rw[bf]at ch v;rcases Int.lt_trichotomy w.op a.op with J|J|J
        ·
         rw[decide_eq_true J,Bool.true_or,Bool.true_and]at v
         cases be with
         |false=>
          rw[y (by rw[v];decide)];exact af
         |true=>
          refine ar ?_;exact⟨p+1+1,rfl,rfl,⟨by omega,hok v⟩,by omega⟩
        ·
         rw[decide_eq_false (show¬w.op <a.op by omega),decide_eq_true J,Bool.false_or,Bool.true_and]at v
         cases bl with
         |false=>
          rw[y (by rw[v];simp)];exact af
         |true=>
          rw[Bool.true_and]at v
          cases be with
          |false=>
           rw[y (by rw[v];decide)];exact af
          |true=>
           refine ar ?_;exact⟨p+1+1,rfl,rfl,⟨by omega,hok v⟩,by omega⟩
        ·
         rw[decide_eq_false (show¬w.op <a.op by omega),decide_eq_false (show¬w.op=a.op by omega)]at v;rw[y (by rw[v];simp)];exact af
     ·
      rw[decide_eq_false aL,Bool.false_and,Bool.false_and]at v;rw[y (by rw[v];decide)];exact af
    ·
     rw[y (by rw[EN G];decide)]
     repeat'(first
|(with_reducible first|apply ac.seq|apply ac.block)
|((with_reducible apply ac.text);(try case hm=>exact rfl))
|((with_reducible apply ac.drawn);(case hm=>exact rfl))
|(with_reducible first|apply ac.skip|apply ac.ret|apply az|apply aV|apply bq)
|((with_reducible apply ac.aA);(case hc=>exact rfl))
|((with_reducible apply aa.aE);(case hp=>exact aj))
|((with_reducible apply aa.bc)<;>intro I)
|((with_reducible apply aa.cd);(case hp=>exact aj))
|(with_reducible apply aa.ap)
|((with_reducible apply aa.gf);(case hW=>exact rfl))
|((with_reducible apply aa.aD);(case hW=>exact rfl);(case hx=>exact ah))
|((with_reducible apply aa.u0);(case hx=>exact ah))
|fail)
     all_goals first
      |exact⟨.inr rfl,rfl⟩
      |(exfalso;omega)
   ·
    rw[eT k3];exact af
  ·
   have ag:(decide (m.ops.length<=8)&&(d&&decide (m.ay.length<=256)))=false:=by
    rw[<- Bool.not_eq_true];simpa using h8
   rw[ag]
   cases d with
   |true=>
    repeat'(first
|(with_reducible first|apply ac.seq|apply ac.block)
|((with_reducible apply ac.text);(try case hm=>exact rfl))
|(with_reducible first|apply ac.skip|apply ac.exit|apply ac.ret|apply az|apply cR|apply aV|apply cS)
|((with_reducible apply ac.aA);(case hc=>exact rfl))
|((with_reducible apply ac.aH);(case hc=>exact rfl))
|((with_reducible apply aa.bC);(case hp=>exact aj))
|((with_reducible apply aa.bc)<;>intro I)
|((with_reducible apply aa.bg)<;>intro I)
|(with_reducible apply aa.ap)
|((with_reducible apply aa.gf);(case hW=>exact rfl))
|((with_reducible apply aa.aD);(case hW=>exact rfl);(case hx=>first
|(exact aq kd)
|exact ah))
|((with_reducible apply aa.u0);(case hx=>exact ah))
|fail)
    all_goals first
     |exact⟨.inr rfl,rfl⟩
     |(exfalso;apply h8;exact⟨by omega,rfl,by omega⟩)
   |false=>
    exact af
def NH{m:Md}(hm:bt m)(G:∀a∈m.ay,iC a.eff)(I:m.ops.length<=4398046511104):Cl ai 53 [.t (bz m)] [] (.t (.bool (cm m))) []:=by
 have ab:=mY m.bw;have ad:=hm.bw;have kv:=zq (S:=m.ak) (L:=m.tables) (by have:=hm.ak;omega) (by have:=hm.tables;omega) (fun t ht=>by have:=hm.au t ht;omega);have kd:=Ef (L:=m.bw) (by omega)
 cases u:bH m.ak m.tables with
 |false=>
  have D:cm m=false:=by unfold cm;rw[u];rfl
  rw[u]at kv;rw[aW,D];refine Cl.ao rfl Tryz.func53 rfl rfl rfl ?_;exact af
 |true=>
  have kc:=Nz hm u;have Z:=NG hm u G I;have kh:=MT hm u;rw[u]at kv;obtain⟨d,hd⟩:∃d,gu m.bw=d:=⟨_,rfl⟩;obtain⟨J,v⟩:∃b,kV m (bx m.ak m.tables true)=b:=⟨_,rfl⟩;obtain⟨U,y⟩:∃b,pg m (bx m.ak m.tables true).length=b:=⟨_,rfl⟩;obtain⟨b3,z⟩:∃b,fS m=b:=⟨_,rfl⟩;have D:cm m=((decide (m.bw.length<=24)&&d)&&(J&&(U&&b3))):=by unfold cm;rw[u,hd,v,y,z];rfl
  rw[hd]at kd;rw[v]at kc;rw[y]at Z;rw[z]at kh;rw[aW]at kc Z kh⊢;rw[D];refine Cl.ao rfl Tryz.func53 rfl rfl rfl ?_;by_cases V:m.bw.length<=24
  ·
   rw[decide_eq_true V]
   cases d with
   |false=>
    exact af
   |true=>
    cases J with
    |false=>
     exact af
    |true=>
     cases U with
     |false=>
      exact af
     |true=>
      exact af
  ·
   rw[decide_eq_false V];exact af
def EO(k:Int):Cl ai 90 [.t (.int .i64 k)] [] (.t (.bool (bp k))) []:=by
 refine Cl.ao rfl Tryz.func90 rfl rfl rfl ?_
 repeat'(first
|(with_reducible apply ac.seq)
|((with_reducible apply ac.text);(try case hm=>exact rfl))
|(with_reducible apply ac.ret)
|((with_reducible apply aa.bc)<;>intro u)
|((with_reducible apply aa.bg)<;>intro u)
|(with_reducible apply aa.ap)
|((with_reducible apply aa.gf);(case hW=>exact rfl))
|((with_reducible apply aa.aD);(case hW=>exact rfl);(case hx=>exact ah))
|((with_reducible apply aa.u0);(case hx=>exact ah))
|fail)
 all_goals(refine aZ (.inr rfl) rfl ?_;unfold bp;first|(simp_all;done)|(simp_all;omega))
def EP{S C:List Int}(hs:ce S=true)(hc:C.all (cg S)=true)(hl:C.length<=3):bE S C=cU S C:=by
 unfold bE;rw[decide_eq_true hl,hs,hc];rfl
def EQ{m:Md}{t:Tb}(hm:bt m)(hs:ce m.ak=true)(ht:t.au.all (cg m.ak)=true)(hl:t.au.length<=3):Cl ai 91 [.t (bz m),.t (.agg (dV t))] [] (.t (.int .i64 (bE m.ak t.au))) []:=by
 rw[EP hs ht hl];have Z:=aQ m.ak;have ab:=hm.ak;obtain⟨nm,J,C,lo,G,D⟩:=t;have ht:C.all (cg m.ak)=true:=ht;have hl:C.length<=3:=hl;have V:=aQ C;have U:dV ⟨nm,J,C,lo,G,D⟩=[.str nm,.int .i64 J,ax C,.int .i64 lo,.int .i64 G,.int .i64 D]:=rfl;rw[aW,U];show Cl ai _ _ [] (.t (.int .i64 (cU m.ak C))) []
 refine Cl.ao rfl Tryz.func91 rfl rfl rfl ?_;refine ar ?_;refine aC.ind (fun q:Nat=>[(5,.t (.int .i64 (cU m.ak (C.take q)))),(6,.t (.int .i64 (q:Int)))]) (fun q=>q<=C.length) (fun q=>C.length - q) 0 rfl (by omega) (fun q hq=>?_);rcases Nat.lt_or_ge q C.length with h4|h4
 ·
  obtain⟨c,v⟩:=am h4;have hc:=aU v;have I:=List.all_eq_true.1 ht c (List.mem_of_getElem? v);have z:=lZ hs (C:=C.take (q+1)) (List.all_eq_true.2 fun x hx=>List.all_eq_true.1 ht x (List.mem_of_mem_take hx)) (by simp;omega);have u:=uQ (S:=m.ak) v;rw[u]at z;simp only[cg,Bool.and_eq_true,decide_eq_true_eq]at I;obtain⟨h0,h5⟩:=I;obtain⟨s,y⟩:=am (xs:=m.ak) (k:=c.toNat) (by omega);have hg:=aU y;rw[eR y]at z u;obtain⟨p,hp⟩:∃p,cU m.ak (C.take q)=p:=⟨_,rfl⟩;rw[hp]at z u⊢;refine ar ?_;refine⟨q+1,?_,rfl,by omega,by omega⟩;rw[u];rfl
 ·
  rw[List.take_of_length_le h4];exact af
def NI{m:Md}(hm:bt m)(hv:bH m.ak m.tables=true):Cl ai 54 [.t (bz m)] [] (.t (.int .i64 (bn m.ak true m.tables))) []:=by
 have ab:=e9 m.tables;have V:=iQ hv;have J:=ph hv;have D:=fun(t:Tb) h1 h2=>EQ (t:=t) hm J h1 h2;rw[aW]at D⊢;refine Cl.ao rfl Tryz.func54 rfl rfl rfl ?_;refine ar ?_;refine aC.ind (fun q:Nat=>[(3,.t (.int .i64 (bn m.ak true (m.tables.take q)))),(4,.t (.int .i64 (q:Int)))]) (fun q=>q<=m.tables.length) (fun q=>m.tables.length - q) 0 rfl (by omega) (fun q hq=>?_);rcases Nat.lt_or_ge q m.tables.length with h3|h3
 ·
  obtain⟨t,U⟩:=am h3;have hc:=eK U;obtain⟨Z,c2,c3⟩:=jp hv U;have kn:=D t c3 Z;have z:=EO t.kind;have u:=qu (S:=m.ak) true U;have y:=jT (S:=m.ak) true (m.tables.take q);have G:=l4 m.ak t.au;have I:(m.tables.take q).length=q:=by simp;omega
  rw[I]at y;obtain⟨a,ha⟩:∃a,bn m.ak true (m.tables.take q)=a:=⟨_,rfl⟩;obtain⟨N,hN⟩:∃N,bE m.ak t.au=N:=⟨_,rfl⟩;rw[ha]at u y⊢;rw[hN]at u G kn
  cases v:bp t.kind with
  |true=>
   rw[v]at z;rw[v,if_pos rfl]at u;refine ar ?_;refine⟨q+1,?_,rfl,by omega,by omega⟩;rw[u];rfl
  |false=>
   rw[v]at z;rw[v,if_neg (by decide)]at u;refine ar ?_;refine⟨q+1,?_,rfl,by omega,by omega⟩;rw[u];rfl
 ·
  rw[List.take_of_length_le h3];exact af
theorem ER(S:List Int):∀(l:List Tb) (a:Int),a+(l.flatMap (kY S)).length=l.foldl (fun n t=>if bp t.kind=false then n+bE S t.au else n) a
 |[],a=>by simp
 |t::l,a=>by
  have v:=l4 S t.au;have u:=ER S l (if bp t.kind=false then a+bE S t.au else a);rw[List.flatMap_cons,List.foldl_cons,<- u,List.length_append];unfold kY;cases bp t.kind <;>simp <;>omega
def ES(S:List Int)(l:List Tb):((kZ S l).length:Int)=bn S false l:=by
 have:=ER S l 0;unfold bn kZ;omega
def jB(S:List Int)(L:List Tb)(q k:Nat)(t:Tb):List Tb:=(L.take q).flatMap (kY S)++List.replicate k t
def NJ(l m:List Tb):br l++br m=br (l++m):=by unfold br;rw[List.map_append]
def NK{m:Md}(hm:bt m)(hv:bH m.ak m.tables=true):Cl ai 55 [.t (bz m)] [] (.ls 0) [.row false false 6 (br (kZ m.ak m.tables))]:=by
 have ab:=e9 m.tables;have y:=iQ hv;have G:=ph hv;have v:=fun(t:Tb) h1 h2=>EQ (t:=t) hm G h1 h2;obtain⟨S,hS⟩:∃S,m.ak=S:=⟨_,rfl⟩;obtain⟨L,hL⟩:∃L,m.tables=L:=⟨_,rfl⟩;rw[aW]at v⊢;rw[hS]at hv y G v⊢;rw[hL]at hv y ab v⊢;unfold kZ;refine Cl.ao rfl Tryz.func55 rfl rfl rfl ?_;refine ar ?_;refine aC.cB (fun x:Nat×Bool=>[(3,.ls 1),(4,.t (.int .i64 (x.1:Int)))]) (fun x=>[.box false 30 (([ax S,.arr (br L),.arr (b5 m.bw),.arr (dN m.cons),.arr (dO m.ops),.arr (de m.ay),.arr (cG m.aI)]:List AV).map .t),.row false x.2 6 (br ((L.take x.1).flatMap (kY S)))]) (fun x=>x.1<=L.length) (fun x=>L.length - x.1) (0,false) rfl rfl (by simp) (fun x hq=>?_);obtain⟨q,I⟩:=x;dsimp only at hq⊢;rcases Nat.lt_or_ge q L.length with h3|h3
 ·
  obtain⟨t,ht⟩:=am h3;have hc:=eK ht;obtain⟨c1,c2,c3⟩:=jp hv ht;have kN:=v t c3 c1;have z:=EO t.kind;have Z:=l4 S t.au
  have al:bE S t.au≠0:=by
   have h1:=qv hv ht;simp only[gS,Bool.and_eq_true,Bool.not_eq_true',decide_eq_false_iff_not]at h1;exact h1.2.2.2.1
  obtain⟨N,hN⟩:∃N,(bE S t.au).toNat=N:=⟨_,rfl⟩;have V:bE S t.au=(N:Int):=by omega
  rw[V]at kN Z al
  cases hs:bp t.kind with
  |false=>
   rw[hs]at z;have U:(L.take q).flatMap (kY S)=jB S L q 0 t:=by unfold jB;simp
   have D:jB S L q N t=(L.take (q+1)).flatMap (kY S):=by
    unfold jB;rw[sj ht];unfold kY;rw[hs,if_neg (by decide),hN]
   rw[U]
   have ad:∀k,k<=N->(jB S L q k t).length<=4000:=fun k hk=>by
    have h1:=ES S (L.take q);have h2:=jT (S:=S) false (L.take q);have h4:(L.take q).length<=12:=by simp;omega
    unfold kZ at h1;unfold jB;rw[List.length_append,List.length_replicate];omega
   refine ar ?_;refine aC.cB (fun x:Nat×Bool=>[(3,.ls 1),(5,.t (.int .i64 (x.1:Int)))]) (fun x=>[.box false 30 (([ax S,.arr (br L),.arr (b5 m.bw),.arr (dN m.cons),.arr (dO m.ops),.arr (de m.ay),.arr (cG m.aI)]:List AV).map .t),.row false x.2 6 (br (jB S L q x.1 t))]) (fun x=>x.1<=N) (fun x=>N - x.1) (0,I) rfl rfl (by simp) (fun x hk=>?_);obtain⟨k,J⟩:=x;dsimp only at hk⊢;rcases Nat.lt_or_ge k N with h4|h4
   ·
    have an:br (jB S L q k t)++[[.str t.name,.int .i64 t.kind,ax t.au,.int .i64 t.lo,.int .i64 t.hi,.int .i64 t.first]]=br (jB S L q (k+1) t):=by
     have:jB S L q (k+1) t=jB S L q k t++[t]:=by unfold jB;rw[CP,List.append_assoc]
     rw[this];exact NJ _ [t]
    have ag:ca ((br (jB S L q k t)).length+1) 72=true:=by
     have:=ad k hk;rw[e9];simp[ca];omega
    repeat'(first
|(with_reducible first|apply ac.seq|apply ac.block)
|((with_reducible apply ac.text);(try case hm=>exact rfl))
|((with_reducible apply ac.drawn);(case hm=>exact rfl))
|(with_reducible first|apply ac.skip|apply az)
|((with_reducible apply ac.aA);(case hc=>exact rfl))
|((with_reducible apply aa.aE);(case hp=>exact aj))
|(with_reducible first|apply aa.ap|apply aa.bj)
|((with_reducible apply aa.u);(case hx=>((with_reducible apply ae.eP);(case hs=>exact fun _=>rfl);(case ha|ht=>exact rfl);(case hr=>first|(with_reducible exact eH)|(with_reducible exact rw1)|(with_reducible exact eI)|(with_reducible exact rw3)|(with_reducible exact rw4)|exact rfl);(case hx|hy|hn|hb|hok=>exact rfl);(case hlen=>exact ag);(case hv=>exact an);(case hk=>exact eQ);(case hf=>exact leq))))
|((with_reducible apply aa.aD);(case hW=>exact rfl);(case hx=>first
|(exact aq z)
|exact ah))
|((with_reducible apply aa.u0);(case hx=>first
|(exact aq kN)
|exact ah))
|fail)
    exact⟨(k+1,true),rfl,rfl,by dsimp only;omega,by dsimp only;omega⟩
   ·
    obtain rfl:k=N:=by omega
    rw[D];refine ar ?_;exact⟨(q+1,J),rfl,rfl,by dsimp only;omega,by dsimp only;omega⟩
  |true=>
   rw[hs]at z
   have U:(L.take q).flatMap (kY S)=(L.take (q+1)).flatMap (kY S):=by
    rw[sj ht];unfold kY;rw[hs,if_pos rfl,List.append_nil]
   rw[U];refine ar ?_;refine aC.step ?_;refine ar ?_;exact⟨(q+1,I),rfl,rfl,by dsimp only;omega,by dsimp only;omega⟩
 ·
  rw[List.take_of_length_le h3];exact af
end Go.Proofs.YtjolgbkkocjpgaaGreatDoor
