/- The code's models,part by part,as contracts: constraints,operations. No condition. -/
import Derived.Test.YtjolgbkkocjpgaaGreatDoorTLC
import Derived.Test.YtjolgbkkocjpgaaGreatDoorTNF
set_option linter.defProp false
set_option linter.unusedSimpArgs false
set_option linter.unusedVariables false
set_option linter.unusedSectionVars false
namespace Go.Proofs.YtjolgbkkocjpgaaGreatDoor
open Go.RowKit
set_option maxRecDepth 100000
set_option maxHeartbeats 32000000
def Ot{m:Md}{l:List (Int×Int)}(hv:bH m.ak m.tables=true)(hm:bt m)(hl:l.length<=100000)(hr:∀r∈l,-1000000<=r.1/\r.1<=1000000):Cl ai 95 [.t (.agg (dh m l))] [] (.t (.bool (qC m l))) []:=by
 have bg:=qJ m.cons;have bl:=mY m.bw;have bj:=jy l;have bm:=hm.cons;have bF:=hm.bw;have U:=fun(c:Cn) (h:c.row.a_.length<=140737488351232)=>Oj (l:=l) hm hv h;have G:=fun(r:Rw) (h:r.a_.length<=140737488351232)=>E7 (m:=m) (l:=l) h hl;have e0:qC m l=((decide (m.cons.length<=512)&&decide (2*l.length<=m.cons.length))&&aY (lf m l) 0 (m.cons.drop 0)):=rfl;rw[e0];unfold dh at U G⊢;refine Cl.ao rfl Tryz.func95 rfl rfl rfl ?_;by_cases h0:m.cons.length<=512/\2*l.length<=m.cons.length
 ·
  rw[decide_eq_true h0.1,decide_eq_true h0.2,Bool.true_and,Bool.true_and];obtain⟨a6,bb⟩:=h0;refine ar ?_;refine aC.ind (fun q:Nat=>[(28,.t (.int .i64 (q:Int)))]) (fun q=>q<=m.cons.length/\aY (lf m l) 0 (m.cons.drop 0)=aY (lf m l) q (m.cons.drop q)) (fun q=>m.cons.length - q) 0 rfl ⟨by omega,rfl⟩ (fun q hq=>?_);obtain⟨h1,h2⟩:=hq;rw[h2];rcases Nat.lt_or_ge q m.cons.length with h3|h3
  ·
   obtain⟨c,I⟩:=am h3;have hc:=pu I;have bd:=hm.a_ c (List.mem_of_getElem? I);have U:=U c (by omega);have G:=G c.row (by omega);have V:=zo c.jR (m.bw.length:Int);have e1:lj c=[.int .i64 c.kind,.int .i64 c.jR,.arr (dM c.row.a_),.int .i64 c.row.gP,.int .i64 c.first,.int .i64 c.size]:=rfl;have e2:e8 c.row=[.arr (dM c.row.a_),.int .i64 c.row.gP]:=rfl;rw[e1]at U;rw[e2]at G;have y:=gz (p:=lf m l) I;have J:=gA (p:=lf m l) I;obtain⟨bf,al⟩:∃b,(decide (0<=c.jR)&&decide (c.jR <(m.bw.length:Int)))=b:=⟨_,rfl⟩;obtain⟨rb,aI⟩:∃b,cy l.length c.row=b:=⟨_,rfl⟩;obtain⟨g,hg⟩:∃b,jm m c=b:=⟨_,rfl⟩
   have u:lf m l q c=(bf&&((if c.kind=0 then decide (c.first=0)&&(decide (c.size=0)&&rb)else decide (c.kind=1)&&g)&&(match l[q/2]? with|some r=>decide (c.kind=0)&&decide (c.row=if q %2=0 then mL (q/2) r else pf (q/2) r)|none=>true))):=by
    unfold lf;rw[al,aI,hg];rfl
   rw[al]at V;rw[aI]at G;rw[hg]at U;have v:((q:Nat):Int).tdiv 2=((q/2:Nat):Int):=rfl;have D:((q:Nat):Int).tmod 2=((q %2:Nat):Int):=rfl
   cases bf with
   |false=>
    rw[y (by rw[u];simp)];exact af
   |true=>
    rw[Bool.true_and]at u;by_cases hk:c.kind=0
    ·
     rw[if_pos hk,decide_eq_true hk]at u;by_cases ab:(c.first=0/\c.size=0)/\rb=true
     ·
      obtain⟨⟨an,au⟩,Z⟩:=ab;rw[Z]at G;rw[decide_eq_true an,decide_eq_true au,Z]at u;simp only[Bool.and_self,Bool.true_and]at u;rcases Nat.lt_or_ge (q/2) l.length with hi|hi
      ·
       obtain⟨r,z⟩:=am hi;have aR:=zh z;have aL:=hr r (List.mem_of_getElem? z);rw[z]at u;dsimp only at u;rcases Nat.mod_two_eq_zero_or_one q with hp|hp
       ·
        have ks:=E8 (r:=c.row) (c:=((q/2:Nat):Int)) (f := -1) (b:=0 - r.1) (by omega);have e3:(⟨[⟨((q/2:Nat):Int),-1⟩],0 - r.1⟩:Rw)=mL (q/2) r:=by unfold mL;rw[Int.zero_sub]
        rw[e3]at ks;rw[if_pos hp]at u;rw[e2]at ks;have ag:((q %2:Nat):Int)=0:=by omega
        cases hd:decide (c.row=mL (q/2) r)with
        |true=>
         rw[hd]at ks u
         repeat'(first
|(with_reducible first|apply ac.seq|apply ac.block)
|((with_reducible apply ac.text);(try case hm=>exact rfl))
|((with_reducible apply ac.drawn);(case hm=>exact rfl))
|(with_reducible first|apply ac.skip|apply az|apply bk)
|((with_reducible apply ac.aA);(case hc=>exact rfl))
|((with_reducible apply ac.aH);(case hc=>exact rfl))
|((with_reducible apply aa.aE);(case hp=>exact aj))
|((with_reducible apply aa.dS);(case hp=>exact aj))
|((with_reducible apply aa.fB);(case hp=>exact aj))
|(with_reducible apply aa.ap)
|((with_reducible apply aa.aD);(case hW=>exact rfl);(case hx=>first
|((with_reducible apply ae.gl);(case hx|hy=>exact rfl);(case hn=>omega);(case h=>exact v);(case hb=>omega))
|(exact aq G)
|(exact aq ks)
|exact ah))
|((with_reducible apply aa.u0);(case hx=>first
|((with_reducible apply ae.gl);(case hx|hy=>exact rfl);(case hn=>omega);(case h=>exact v);(case hb=>omega))
|((with_reducible apply ae.kR);(case hx|hy=>exact rfl);(case hn=>omega);(case h=>exact D))
|((with_reducible apply ae.gX);(case hx=>exact rfl);(case h=>omega))
|(exact aq V)
|exact ah))
|fail)
         exact⟨q+1,rfl,rfl,⟨by omega,J u⟩,by omega⟩
        |false=>
         rw[hd]at ks u;rw[y (by rw[u];decide)]
         repeat'(first
|(with_reducible first|apply ac.seq|apply ac.block)
|((with_reducible apply ac.text);(try case hm=>exact rfl))
|((with_reducible apply ac.drawn);(case hm=>exact rfl))
|(with_reducible first|apply ac.skip|apply ac.ret|apply az|apply aV|apply bk|apply bq)
|((with_reducible apply ac.aA);(case hc=>exact rfl))
|((with_reducible apply ac.aH);(case hc=>exact rfl))
|((with_reducible apply aa.aE);(case hp=>exact aj))
|((with_reducible apply aa.dS);(case hp=>exact aj))
|((with_reducible apply aa.fB);(case hp=>exact aj))
|(with_reducible apply aa.ap)
|((with_reducible apply aa.aD);(case hW=>exact rfl);(case hx=>first
|((with_reducible apply ae.gl);(case hx|hy=>exact rfl);(case hn=>omega);(case h=>exact v);(case hb=>omega))
|(exact aq G)
|(exact aq ks)
|exact ah))
|((with_reducible apply aa.u0);(case hx=>first
|((with_reducible apply ae.gl);(case hx|hy=>exact rfl);(case hn=>omega);(case h=>exact v);(case hb=>omega))
|((with_reducible apply ae.kR);(case hx|hy=>exact rfl);(case hn=>omega);(case h=>exact D))
|((with_reducible apply ae.gX);(case hx=>exact rfl);(case h=>omega))
|(exact aq V)
|exact ah))
|fail)
         exact⟨.inr rfl,rfl⟩
       ·
        have ks:=E8 (r:=c.row) (c:=((q/2:Nat):Int)) (f:=1) (b:=r.2) (by omega);have e3:(⟨[⟨((q/2:Nat):Int),1⟩],r.2⟩:Rw)=pf (q/2) r:=rfl;rw[e3]at ks;rw[if_neg (by omega)]at u;rw[e2]at ks;have ag:¬((q %2:Nat):Int)=0:=by omega
        cases hd:decide (c.row=pf (q/2) r)with
        |true=>
         rw[hd]at ks u
         repeat'(first
|(with_reducible first|apply ac.seq|apply ac.block)
|((with_reducible apply ac.text);(try case hm=>exact rfl))
|(with_reducible first|apply ac.skip|apply az|apply bk)
|((with_reducible apply ac.aA);(case hc=>exact rfl))
|((with_reducible apply ac.aH);(case hc=>exact rfl))
|((with_reducible apply aa.aE);(case hp=>exact aj))
|((with_reducible apply aa.bC);(case hp=>exact aj))
|((with_reducible apply aa.dS);(case hp=>exact aj))
|((with_reducible apply aa.fB);(case hp=>exact aj))
|(with_reducible apply aa.ap)
|((with_reducible apply aa.aD);(case hW=>exact rfl);(case hx=>first
|((with_reducible apply ae.gl);(case hx|hy=>exact rfl);(case hn=>omega);(case h=>exact v);(case hb=>omega))
|(exact aq G)
|(exact aq ks)
|exact ah))
|((with_reducible apply aa.u0);(case hx=>first
|((with_reducible apply ae.gl);(case hx|hy=>exact rfl);(case hn=>omega);(case h=>exact v);(case hb=>omega))
|((with_reducible apply ae.kR);(case hx|hy=>exact rfl);(case hn=>omega);(case h=>exact D))
|(exact aq V)
|exact ah))
|fail)
         exact⟨q+1,rfl,rfl,⟨by omega,J u⟩,by omega⟩
        |false=>
         rw[hd]at ks u;rw[y (by rw[u];decide)]
         repeat'(first
|(with_reducible first|apply ac.seq|apply ac.block)
|((with_reducible apply ac.text);(try case hm=>exact rfl))
|(with_reducible first|apply ac.skip|apply ac.ret|apply az|apply aV|apply bk|apply bq)
|((with_reducible apply ac.aA);(case hc=>exact rfl))
|((with_reducible apply ac.aH);(case hc=>exact rfl))
|((with_reducible apply aa.aE);(case hp=>exact aj))
|((with_reducible apply aa.bC);(case hp=>exact aj))
|((with_reducible apply aa.dS);(case hp=>exact aj))
|((with_reducible apply aa.fB);(case hp=>exact aj))
|(with_reducible apply aa.ap)
|((with_reducible apply aa.aD);(case hW=>exact rfl);(case hx=>first
|((with_reducible apply ae.gl);(case hx|hy=>exact rfl);(case hn=>omega);(case h=>exact v);(case hb=>omega))
|(exact aq G)
|(exact aq ks)
|exact ah))
|((with_reducible apply aa.u0);(case hx=>first
|((with_reducible apply ae.gl);(case hx|hy=>exact rfl);(case hn=>omega);(case h=>exact v);(case hb=>omega))
|((with_reducible apply ae.kR);(case hx|hy=>exact rfl);(case hn=>omega);(case h=>exact D))
|(exact aq V)
|exact ah))
|fail)
         exact⟨.inr rfl,rfl⟩
      ·
       rw[List.getElem?_eq_none hi]at u
       repeat'(first
|(with_reducible first|apply ac.seq|apply ac.block)
|((with_reducible apply ac.text);(try case hm=>exact rfl))
|(with_reducible first|apply ac.skip|apply az|apply bk)
|((with_reducible apply ac.aA);(case hc=>exact rfl))
|((with_reducible apply ac.aH);(case hc=>exact rfl))
|((with_reducible apply aa.aE);(case hp=>exact aj))
|((with_reducible apply aa.bC);(case hp=>exact aj))
|((with_reducible apply aa.dS);(case hp=>exact aj))
|((with_reducible apply aa.fB);(case hp=>exact aj))
|(with_reducible apply aa.ap)
|((with_reducible apply aa.aD);(case hW=>exact rfl);(case hx=>first
|(exact aq G)
|exact ah))
|((with_reducible apply aa.u0);(case hx=>first
|((with_reducible apply ae.gl);(case hx|hy=>exact rfl);(case hn=>omega);(case h=>exact v);(case hb=>omega))
|(exact aq V)
|exact ah))
|fail)
       exact⟨q+1,rfl,rfl,⟨by omega,J u⟩,by omega⟩
     ·
      rw[y (by
       rw[u];intro h;rw[Bool.and_eq_true,Bool.and_eq_true,Bool.and_eq_true,decide_eq_true_eq,decide_eq_true_eq]at h;exact ab ⟨⟨h.1.1,h.1.2.1⟩,h.1.2.2⟩)]
      cases rb with
      |false=>
       exact af
      |true=>
       by_cases aS:c.first=0
       ·
        have be:¬c.size=0:=fun h=>ab ⟨⟨aS,h⟩,rfl⟩;exact af
       ·
        exact af
    ·
     rw[if_neg hk,decide_eq_false hk]at u;by_cases ad:c.kind=1/\g=true
     ·
      obtain⟨aw,ay⟩:=ad;rw[ay]at U;rw[decide_eq_true aw,ay,Bool.true_and,Bool.true_and]at u;rcases Nat.lt_or_ge (q/2) l.length with hi|hi
      ·
       obtain⟨r,z⟩:=am hi;have aR:=zh z;have aL:=hr r (List.mem_of_getElem? z);rw[z]at u;dsimp only at u;rw[Bool.false_and]at u;rw[y (by rw[u];decide)];rcases Nat.mod_two_eq_zero_or_one q with hp|hp
       ·
        have ag:((q %2:Nat):Int)=0:=by omega
        repeat'(first
|(with_reducible first|apply ac.seq|apply ac.block)
|((with_reducible apply ac.text);(try case hm=>exact rfl))
|((with_reducible apply ac.drawn);(case hm=>exact rfl))
|(with_reducible first|apply ac.skip|apply ac.ret|apply az|apply aV|apply bk|apply bq)
|((with_reducible apply ac.aA);(case hc=>exact rfl))
|((with_reducible apply ac.aH);(case hc=>exact rfl))
|((with_reducible apply aa.aE);(case hp=>exact aj))
|((with_reducible apply aa.bC);(case hp=>exact aj))
|((with_reducible apply aa.gN);(case hp=>exact aj))
|((with_reducible apply aa.dS);(case hp=>exact aj))
|(with_reducible apply aa.ap)
|((with_reducible apply aa.gf);(case hW=>exact rfl))
|((with_reducible apply aa.aD);(case hW=>exact rfl);(case hx=>first
|(exact aq U)
|exact ah))
|((with_reducible apply aa.u0);(case hx=>first
|((with_reducible apply ae.gl);(case hx|hy=>exact rfl);(case hn=>omega);(case h=>exact v);(case hb=>omega))
|((with_reducible apply ae.kR);(case hx|hy=>exact rfl);(case hn=>omega);(case h=>exact D))
|((with_reducible apply ae.gX);(case hx=>exact rfl);(case h=>omega))
|(exact aq V)
|exact ah))
|fail)
        exact⟨.inr rfl,rfl⟩
       ·
        have ag:¬((q %2:Nat):Int)=0:=by omega
        repeat'(first
|(with_reducible first|apply ac.seq|apply ac.block)
|((with_reducible apply ac.text);(try case hm=>exact rfl))
|(with_reducible first|apply ac.skip|apply ac.ret|apply az|apply aV|apply bk|apply bq)
|((with_reducible apply ac.aA);(case hc=>exact rfl))
|((with_reducible apply ac.aH);(case hc=>exact rfl))
|((with_reducible apply aa.aE);(case hp=>exact aj))
|((with_reducible apply aa.bC);(case hp=>exact aj))
|((with_reducible apply aa.gN);(case hp=>exact aj))
|((with_reducible apply aa.dS);(case hp=>exact aj))
|(with_reducible apply aa.ap)
|((with_reducible apply aa.gf);(case hW=>exact rfl))
|((with_reducible apply aa.aD);(case hW=>exact rfl);(case hx=>first
|(exact aq U)
|exact ah))
|((with_reducible apply aa.u0);(case hx=>first
|((with_reducible apply ae.gl);(case hx|hy=>exact rfl);(case hn=>omega);(case h=>exact v);(case hb=>omega))
|((with_reducible apply ae.kR);(case hx|hy=>exact rfl);(case hn=>omega);(case h=>exact D))
|(exact aq V)
|exact ah))
|fail)
        exact⟨.inr rfl,rfl⟩
      ·
       rw[List.getElem?_eq_none hi]at u
       repeat'(first
|(with_reducible first|apply ac.seq|apply ac.block)
|((with_reducible apply ac.text);(try case hm=>exact rfl))
|(with_reducible first|apply ac.skip|apply az|apply bk)
|((with_reducible apply ac.aA);(case hc=>exact rfl))
|((with_reducible apply ac.aH);(case hc=>exact rfl))
|((with_reducible apply aa.aE);(case hp=>exact aj))
|((with_reducible apply aa.bC);(case hp=>exact aj))
|((with_reducible apply aa.dS);(case hp=>exact aj))
|(with_reducible apply aa.ap)
|((with_reducible apply aa.aD);(case hW=>exact rfl);(case hx=>first
|(exact aq U)
|exact ah))
|((with_reducible apply aa.u0);(case hx=>first
|((with_reducible apply ae.gl);(case hx|hy=>exact rfl);(case hn=>omega);(case h=>exact v);(case hb=>omega))
|(exact aq V)
|exact ah))
|fail)
       exact⟨q+1,rfl,rfl,⟨by omega,J u⟩,by omega⟩
     ·
      rw[y (by
       rw[u];intro h;rw[Bool.and_eq_true,Bool.and_eq_true,decide_eq_true_eq]at h;exact ad h.1)]
      cases g with
      |false=>
       exact af
      |true=>
       have aw:¬c.kind=1:=fun h=>ad ⟨h,rfl⟩;exact af
  ·
   rw[eT h3];exact af
 ·
  have a1:(decide (m.cons.length<=512)&&decide (2*l.length<=m.cons.length))=false:=by
   rw[<- Bool.not_eq_true,Bool.and_eq_true,decide_eq_true_eq,decide_eq_true_eq];exact h0
  rw[a1]
  repeat'(first
|(with_reducible apply ac.seq)
|((with_reducible apply ac.text);(try case hm=>exact rfl))
|(with_reducible first|apply ac.ret|apply aV)
|((with_reducible apply ac.aA);(case hc=>exact rfl))
|((with_reducible apply aa.bc)<;>intro hq)
|((with_reducible apply aa.cd);(case hp=>exact aj))
|(with_reducible apply aa.ap)
|((with_reducible apply aa.gf);(case hW=>exact rfl))
|((with_reducible apply aa.aD);(case hW=>exact rfl);(case hx=>first
|((with_reducible apply ae.mul);(case hx|hy=>exact rfl);(case h=>omega))
|exact ah))
|((with_reducible apply aa.u0);(case hx=>exact ah))
|fail)
  all_goals first
   |exact⟨.inr rfl,rfl⟩
   |(exfalso;apply h0;constructor <;>omega)
def Ou{m:Md}{l:List (Int×Int)}{s:Int}(hm:bt m):Cl ai 146 [.t (.int .i64 s),.t (.tp (dh m l))] [] (.t (.bool (!(decide (-1<=s)&&decide (s <(m.ak.length:Int)))))) []:=by
 have v:=aQ m.ak;have u:=hm.ak;unfold dh;refine Cl.ao rfl Tryz.func146 rfl rfl rfl ?_;exact af
def Ov{m:Md}{q:Nat}{o:gq}(ho:m.ops[q]?=some o):b5 ((m.ops.take q).map (·.name))++[[.str o.name]]=b5 ((m.ops.take (q+1)).map (·.name)):=by
 rw[List.take_add_one,ho];simp[b5]
def Ow{m:Md}{l:List (Int×Int)}(hm:bt m)(I:m.ops.length<=4398046511104):Cl ai 96 [.t (.agg (dh m l))] [] (.t (.bool ((decide ((m.ops.map (·.name)).length<=8)&&gu (m.ops.map (·.name)))&&m.ops.all (dU m)))) []:=by
 have ag:=pt m.ops;have an:=hm.ops;have ko:=fun(o:gq) (y:o∈m.ops)=>NX (C:=o.ak) (p:=fun s=>!(decide (-1<=s)&&decide (s <(m.ak.length:Int)))) (c1:=.tp (dh m l)) (by have:=hm.sK o y;omega) (fun s _=>Ou hm);have kd:=E6 (N:=m.ops.map (·.name)) (by rw[List.length_map];omega);have ad:(b5 (m.ops.map (·.name))).length=m.ops.length:=by rw[mY,List.length_map]
 have ab:(m.ops.map (·.name)).length=m.ops.length:=List.length_map _;obtain⟨d,hd⟩:∃d,gu (m.ops.map (·.name))=d:=⟨_,rfl⟩;rw[hd]at kd⊢;obtain⟨Y,Z⟩:∃Y,(decide ((m.ops.map (·.name)).length<=8)&&d)=Y:=⟨_,rfl⟩;have J:(decide (m.ops.length<=8)&&d)=Y:=by rw[<- Z,List.length_map]
 rw[Z,Bool.and_comm];have e0:m.ops.all (dU m)=(m.ops.drop 0).all (dU m):=rfl;rw[e0];unfold dh at ko⊢;refine Cl.ao rfl Tryz.func96 rfl rfl rfl ?_;refine ar ?_;refine aC.cB (fun x:Nat×Bool=>[(3,.ls 1),(10,.t (.int .i64 (x.1:Int)))]) (fun x=>[.box false 152 (([ax m.ak,.arr (br m.tables),.arr (b5 m.bw),.arr (dN m.cons),.arr (dO m.ops),.arr (de m.ay),.arr (cG m.aI),.arr (bJ l)]:List AV).map .t),.row false x.2 1 (b5 ((m.ops.take x.1).map (·.name)))]) (fun x=>x.1<=m.ops.length/\(m.ops.drop 0).all (dU m)=(m.ops.drop x.1).all (dU m)) (fun x=>m.ops.length - x.1) (0,false) rfl rfl ⟨by dsimp only;omega,rfl⟩ (fun x hq=>?_);obtain⟨q,aL⟩:=x;dsimp only at hq⊢;obtain⟨h1,h2⟩:=hq;rw[h2];rcases Nat.lt_or_ge q m.ops.length with h3|h3
 ·
  obtain⟨o,y⟩:=am h3;have au:=qL y;have aw:=hm.sK o (List.mem_of_getElem? y);have al:=aQ o.ak;have D:=iO (dU m) y;have z:=Ov y
  have v:ca ((b5 ((m.ops.take q).map (·.name))).length+1) 16=true:=by
   rw[mY];simp[ca];omega
  have U:=ko o (List.mem_of_getElem? y);obtain⟨b,hb⟩:∃b,(o.ak.any fun s=>!(decide (-1<=s)&&decide (s <(m.ak.length:Int))))=b:=⟨_,rfl⟩
  have I:dU m o=(!b&&decide (o.ak.length<=3)):=by
   unfold dU;rw[n7,hb]
  rw[hb]at U;rw[I]at D;rw[D];by_cases G:o.ak.length<=3
  ·
   rw[decide_eq_true G]
   cases b with
   |true=>
    repeat'(first
|(with_reducible first|apply ac.seq|apply ac.block)
|((with_reducible apply ac.text);(try case hm=>exact rfl))
|(with_reducible first|apply ac.skip|apply ac.ret|apply az|apply aV|apply bq)
|((with_reducible apply ac.aA);(case hc=>exact rfl))
|((with_reducible apply aa.aE);(case hp=>exact aj))
|((with_reducible apply aa.bC);(case hp=>exact aj))
|(with_reducible apply aa.ap)
|((with_reducible apply aa.u);(case hx=>((with_reducible apply ae.eP);(case hs=>exact fun _=>rfl);(case ha|ht=>exact rfl);(case hr=>first|(with_reducible exact eH)|(with_reducible exact rw1)|(with_reducible exact eI)|(with_reducible exact rw3)|(with_reducible exact rw4)|exact rfl);(case hx|hy|hn|hb|hok=>exact rfl);(case hlen=>exact v);(case hv=>exact z);(case hk=>exact eQ);(case hf=>exact leq))))
|((with_reducible apply aa.aD);(case hW=>exact rfl);(case hx=>first
|(exact aq U)
|exact ah))
|((with_reducible apply aa.u0);(case hx=>exact ah))
|fail)
    exact⟨.inr rfl,rfl⟩
   |false=>
    repeat'(first
|(with_reducible first|apply ac.seq|apply ac.block)
|((with_reducible apply ac.text);(try case hm=>exact rfl))
|(with_reducible first|apply ac.skip|apply az|apply bk)
|((with_reducible apply ac.aA);(case hc=>exact rfl))
|((with_reducible apply ac.aH);(case hc=>exact rfl))
|((with_reducible apply aa.aE);(case hp=>exact aj))
|((with_reducible apply aa.bC);(case hp=>exact aj))
|(with_reducible apply aa.ap)
|((with_reducible apply aa.u);(case hx=>((with_reducible apply ae.eP);(case hs=>exact fun _=>rfl);(case ha|ht=>exact rfl);(case hr=>first|(with_reducible exact eH)|(with_reducible exact rw1)|(with_reducible exact eI)|(with_reducible exact rw3)|(with_reducible exact rw4)|exact rfl);(case hx|hy|hn|hb|hok=>exact rfl);(case hlen=>exact v);(case hv=>exact z);(case hk=>exact eQ);(case hf=>exact leq))))
|((with_reducible apply aa.aD);(case hW=>exact rfl);(case hx=>first
|(exact aq U)
|exact ah))
|((with_reducible apply aa.u0);(case hx=>exact ah))
|fail)
    exact⟨(q+1,true),rfl,rfl,⟨by dsimp only;omega,rfl⟩,by dsimp only;omega⟩
  ·
   rw[decide_eq_false G,Bool.and_false]
   repeat'(first
|(with_reducible first|apply ac.seq|apply ac.block)
|((with_reducible apply ac.text);(try case hm=>exact rfl))
|(with_reducible first|apply ac.skip|apply ac.ret|apply az|apply aV|apply bq)
|((with_reducible apply ac.aA);(case hc=>exact rfl))
|((with_reducible apply aa.aE);(case hp=>exact aj))
|(with_reducible apply aa.ap)
|((with_reducible apply aa.gf);(case hW=>exact rfl))
|((with_reducible apply aa.u);(case hx=>((with_reducible apply ae.eP);(case hs=>exact fun _=>rfl);(case ha|ht=>exact rfl);(case hr=>first|(with_reducible exact eH)|(with_reducible exact rw1)|(with_reducible exact eI)|(with_reducible exact rw3)|(with_reducible exact rw4)|exact rfl);(case hx|hy|hn|hb|hok=>exact rfl);(case hlen=>exact v);(case hv=>exact z);(case hk=>exact eQ);(case hf=>exact leq))))
|((with_reducible apply aa.u0);(case hx=>exact ah))
|fail)
   exact⟨.inr rfl,rfl⟩
 ·
  rw[gR _ h3,List.take_of_length_le h3,Bool.true_and,<- J];by_cases V:m.ops.length<=8
  ·
   rw[decide_eq_true V,Bool.true_and];exact af
  ·
   rw[decide_eq_false V,Bool.false_and];exact af
def E9(x:Int):Cl ai 191 [.t (.int .i64 x)] [] (.t (.bool false)) []:=by
 refine Cl.ao rfl Tryz.func191 rfl rfl rfl ?_;exact af
def qV(x y:Int):Int:=if x <y then -1 else if y <x then 1 else 0
def Ox(x y:Int):Cl ai 174 [.t (.int .i64 x),.t (.int .i64 y)] [] (.t (.int .i64 (qV x y))) []:=by
 have u:=E9 x;have v:=E9 y;unfold qV;refine Cl.ao rfl Tryz.func174 rfl rfl rfl ?_;rcases Int.lt_trichotomy x y with h|h|h
 ·
  rw[if_pos h];exact af
 ·
  rw[if_neg (by omega),if_neg (by omega)];exact af
 ·
  rw[if_neg (by omega),if_pos h];exact af
def Oy{A B:List Int}{q:Nat}{x y:Int}(hx:A[q]?=some x)(hy:B[q]?=some y):cmpL (A.drop q) (B.drop q)=if qV x y=0 then cmpL (A.drop (q+1)) (B.drop (q+1))else qV x y:=by
 rw[bS hx,bS hy];show(if x <y then -1 else if y <x then 1 else cmpL (A.drop (q+1)) (B.drop (q+1)))=_
 unfold qV;split
 ·rfl
 ·split
  ·rfl
  ·rfl
def Oz{A B:List Int}(hA:A.length<=140737488351232)(hB:B.length<=140737488351232):Cl ai 148 [.t (ax A),.t (ax B)] [] (.t (.int .i64 (cmpL A B))) []:=by
 have ab:=aQ A;have ad:=aQ B;have U:cmpL A B=cmpL (A.drop 0) (B.drop 0):=rfl;rw[U];refine Cl.ao rfl Tryz.func148 rfl rfl rfl ?_;refine ar ?_;refine aC.ind (fun q:Nat=>[(11,.t (.int .i64 (q:Int)))]) (fun q=>q<=A.length/\q<=B.length/\cmpL (A.drop 0) (B.drop 0)=cmpL (A.drop q) (B.drop q)) (fun q=>A.length - q) 0 rfl ⟨by omega,by omega,rfl⟩ (fun q hq=>?_);obtain⟨h1,h2,h3⟩:=hq;rw[h3];rcases Nat.lt_or_ge q A.length with z|z
 ·
  obtain⟨x,hx⟩:=am z;have V:=aU hx;rcases Nat.lt_or_ge q B.length with u|u
  ·
   obtain⟨y,v⟩:=am u;have Z:=aU v;have J:=Ox x y;rw[Oy hx v];obtain⟨c,hc⟩:∃c,qV x y=c:=⟨_,rfl⟩;rw[hc]at J⊢;by_cases I:c=0
   ·
    rw[if_pos I]
    repeat'(first
|(with_reducible first|apply ac.seq|apply ac.block)
|((with_reducible apply ac.text);(try case hm=>exact rfl))
|(with_reducible first|apply ac.skip|apply az|apply bk)
|((with_reducible apply ac.aA);(case hc=>exact rfl))
|((with_reducible apply ac.aH);(case hc=>exact rfl))
|((with_reducible apply aa.aE);(case hp=>exact aj))
|((with_reducible apply aa.bC);(case hp=>exact aj))
|((with_reducible apply aa.dS);(case hp=>exact aj))
|(with_reducible apply aa.ap)
|((with_reducible apply aa.u0);(case hx=>first
|(exact aq J)
|exact ah))
|fail)
    exact⟨q+1,rfl,rfl,⟨by omega,by omega,rfl⟩,by omega⟩
   ·
    rw[if_neg I];exact af
  ·
   have D:cmpL (A.drop q) (B.drop q)=1:=by rw[bS hx,fE u];rfl
   rw[D];exact af
 ·
  have D:cmpL (A.drop q) (B.drop q)=if A.length <B.length then -1 else 0:=by
   rw[fE z];rcases Nat.lt_or_ge q B.length with u|u
   ·obtain⟨y,v⟩:=am u;rw[bS v,if_pos (by omega)];rfl
   ·rw[fE u,if_neg (by omega)];rfl
  rw[D];by_cases G:A.length <B.length
  ·
   rw[if_pos G];exact af
  ·
   rw[if_neg G];exact af
def OA{m:Md}{l:List (Int×Int)}(hv:bH m.ak m.tables=true)(hm:bt m)(aw:∀a∈m.ay,iC a.eff)(ag:m.ops.all (dU m)=true)(hl:l.length<=100000):Cl ai 97 [.t (.agg (dh m l))] [] (.t (.bool (decide (m.ay.length<=256)&&allI (dB m l.length) m.ay))) []:=by
 have bl:=pt m.ops;have bg:=jx m.ay;have bm:=aQ m.ak;have bj:=jy l;have bO:=hm.ops;have ad:=hm.sK;have bN:=hm.ay;have I:=hm.args;have bb:=iQ hv;have ke:=fun(a:eD) (ha:a∈m.ay)=>Oq (l:=l) hv hm (aw a ha) hl;have e0:allI (dB m l.length) m.ay=aY (dB m l.length) 0 (m.ay.drop 0):=rfl;rw[e0];unfold dh at ke⊢;refine Cl.ao rfl Tryz.func97 rfl rfl rfl ?_;by_cases h0:m.ay.length<=256
 ·
  rw[decide_eq_true h0,Bool.true_and];refine ar ?_;refine aC.ind (fun q:Nat=>[(18,.t (.int .i64 (q:Int)))]) (fun q=>q<=m.ay.length/\aY (dB m l.length) 0 (m.ay.drop 0)=aY (dB m l.length) q (m.ay.drop q)) (fun q=>m.ay.length - q) 0 rfl ⟨by omega,rfl⟩ (fun q hq=>?_);obtain⟨h1,h2⟩:=hq;rw[h2];rcases Nat.lt_or_ge q m.ay.length with h3|h3
  ·
   obtain⟨a,ha⟩:=am h3;have bd:=jZ ha;have J:=List.mem_of_getElem? ha;have bw:=aQ a.args;have bf:=I a J;have al:=ke a J;rw[On]at al;have ki:=zo a.op (m.ops.length:Int);have v:=gz (p:=dB m l.length) ha;have U:=gA (p:=dB m l.length) ha;by_cases V:0<=a.op/\a.op <m.ops.length
   ·
    obtain⟨k0,k1⟩:=V;obtain⟨o,ho⟩:=am (xs:=m.ops) (k:=a.op.toNat) (by omega);have b1:=qL ho;have bF:=aQ o.ak;have b2:=ad o (List.mem_of_getElem? ho);have aS:=List.all_eq_true.1 ag o (List.mem_of_getElem? ho);rw[decide_eq_true k0,decide_eq_true k1,Bool.and_self]at ki;obtain⟨b,hb⟩:∃b,m.ay.getD (q - 1) fk=b:=⟨_,rfl⟩;have z:=EM (n:=l.length) (i:=q) k0 k1 ho hb;by_cases G:a.args.length=o.ak.length
    ·
     obtain⟨f,hf⟩:∃f:Nat->Int->Bool,(fun k x=>jS m (o.ak.getD k 0) x)=f:=⟨_,rfl⟩;rw[hf,decide_eq_true G,Bool.true_and]at z;obtain⟨Z,hZ⟩:∃Z,((decide (q=0)||(decide (b.op <a.op)||(decide (b.op=a.op)&&iu b.args a.args)))&&kW m l.length a.eff)=Z:=⟨_,rfl⟩;rw[hZ]at z;refine ar ?_;refine aC.ind (fun k:Nat=>[(55,.t (.int .i64 (k:Int)))]) (fun k=>k<=o.ak.length/\dB m l.length q a=(aY f k (a.args.drop k)&&Z)) (fun k=>o.ak.length - k) 0 rfl ⟨by omega,z⟩ (fun k hk=>?_);obtain⟨g1,u⟩:=hk;rcases Nat.lt_or_ge k o.ak.length with g3|g3
     ·
      obtain⟨s,hs⟩:=am g3;obtain⟨x,hx⟩:=am (xs:=a.args) (k:=k) (by omega);have b3:=aU hs;have cc:=aU hx;have b4:=EJ aS hs;have ka:=vK x (m:=9999) (.inr (.inr rfl));rw[qp hx]at u;have aI:f k x=jS m s x:=by rw[<- hf];show jS m (o.ak.getD k 0) x=_;rw[List.getD_eq_getElem?_getD,hs];rfl
      rw[aI]at u;by_cases a1:s <0
      ·
       rw[EK a1]at u
       cases y:cE x 9999 with
       |true=>
        rw[y]at ka;rw[y,Bool.true_and]at u
        repeat'(first
|(with_reducible first|apply ac.seq|apply ac.block)
|((with_reducible apply ac.text);(try case hm=>exact rfl))
|(with_reducible first|apply ac.skip|apply az|apply bk)
|((with_reducible apply ac.aA);(case hc=>exact rfl))
|((with_reducible apply ac.aH);(case hc=>exact rfl))
|((with_reducible apply aa.aE);(case hp=>exact aj))
|((with_reducible apply aa.cA);(case hp=>exact aj))
|(with_reducible apply aa.ap)
|((with_reducible apply aa.gf);(case hW=>exact rfl))
|((with_reducible apply aa.aD);(case hW=>exact rfl);(case hx=>first
|(exact aq ka)
|exact ah))
|((with_reducible apply aa.u0);(case hx=>exact ah))
|fail)
        exact⟨k+1,rfl,rfl,⟨by omega,u⟩,by omega⟩
       |false=>
        rw[y]at ka;rw[y,Bool.false_and,Bool.false_and]at u;rw[v (by rw[u];decide)];exact af
      ·
       obtain⟨n,hn⟩:=am (xs:=m.ak) (k:=s.toNat) (by omega);have b0:=aU hn;have kx:=zo x n;rw[EL (by omega) hn]at u
       cases y:(decide (0<=x)&&decide (x <n))with
       |true=>
        rw[y]at kx;rw[y,Bool.true_and]at u
        repeat'(first
|(with_reducible first|apply ac.seq|apply ac.block)
|((with_reducible apply ac.text);(try case hm=>exact rfl))
|(with_reducible first|apply ac.skip|apply az|apply bk)
|((with_reducible apply ac.aA);(case hc=>exact rfl))
|((with_reducible apply ac.aH);(case hc=>exact rfl))
|((with_reducible apply aa.aE);(case hp=>exact aj))
|((with_reducible apply aa.bC);(case hp=>exact aj))
|((with_reducible apply aa.cd);(case hp=>exact aj))
|(with_reducible apply aa.ap)
|((with_reducible apply aa.gf);(case hW=>exact rfl))
|((with_reducible apply aa.aD);(case hW=>exact rfl);(case hx=>first
|(exact aq kx)
|exact ah))
|((with_reducible apply aa.u0);(case hx=>exact ah))
|fail)
        exact⟨k+1,rfl,rfl,⟨by omega,u⟩,by omega⟩
       |false=>
        rw[y]at kx;rw[y,Bool.false_and,Bool.false_and]at u;rw[v (by rw[u];decide)];exact af
     ·
      rw[eT (by omega),Bool.true_and,<- hZ]at u;obtain⟨be,an⟩:∃be,kW m l.length a.eff=be:=⟨_,rfl⟩;rw[an]at al u
      cases q with
      |zero=>
       rw[decide_eq_true rfl,Bool.true_or,Bool.true_and]at u
       cases be with
       |false=>
        rw[v (by rw[u];decide)];exact af
       |true=>
        refine ar ?_;exact⟨0+1,rfl,rfl,⟨by omega,U u⟩,by omega⟩
      |succ p=>
       obtain⟨w,hw⟩:=am (xs:=m.ay) (k:=p) (by omega);have a6:=jZ hw;have bc:(de m.ay)[((p+1:Nat) - 1:Int).toNat]?=some [.int .i64 w.op,ax w.args,.arr (iS w.eff.delta),.arr (iz w.eff.hold),.arr (iA w.eff.bZ)]:=by rw[show((p+1:Nat) - 1:Int).toNat=p by omega];exact a6
       have aL:m.ay.getD (p+1 - 1) fk=w:=by rw[Nat.add_sub_cancel,List.getD_eq_getElem?_getD,hw];rfl
       obtain rfl:w=b:=by rw[<- aL,hb]
       have bI:=aQ w.args;have a_:=Oz (A:=w.args) (B:=a.args) (by have:=I w (List.mem_of_getElem? hw);omega) (by omega);rw[decide_eq_false (show¬p+1=0 by omega),Bool.false_or,<- Dr]at u;obtain⟨cl,au⟩:∃cl,cmpL w.args a.args=cl:=⟨_,rfl⟩;rw[au]at a_ u;rcases Int.lt_trichotomy w.op a.op with D|D|D
       ·
        rw[decide_eq_true D,Bool.true_or,Bool.true_and]at u
        cases be with
        |false=>
         rw[v (by rw[u];decide)];exact af
        |true=>
         refine ar ?_;exact⟨p+1+1,rfl,rfl,⟨by omega,U u⟩,by omega⟩
       ·
        rw[decide_eq_false (show¬w.op <a.op by omega),decide_eq_true D,Bool.false_or,Bool.true_and]at u;by_cases ab:cl <0
        ·
         rw[decide_eq_true ab,Bool.true_and]at u
         cases be with
         |false=>
          rw[v (by rw[u];decide)];exact af
         |true=>
          refine ar ?_;exact⟨p+1+1,rfl,rfl,⟨by omega,U u⟩,by omega⟩
        ·
         rw[decide_eq_false ab,Bool.false_and]at u;rw[v (by rw[u];simp)];exact af
       ·
        rw[decide_eq_false (show¬w.op <a.op by omega),decide_eq_false (show¬w.op=a.op by omega)]at u;rw[v (by rw[u];simp)];exact af
    ·
     rw[decide_eq_false G,Bool.false_and,Bool.false_and]at z;rw[v (by rw[z];decide)];exact af
   ·
    have aR:(decide (0<=a.op)&&decide (a.op <(m.ops.length:Int)))=false:=by
     rw[<- Bool.not_eq_true,Bool.and_eq_true,decide_eq_true_eq,decide_eq_true_eq];exact V
    rw[aR]at ki;rw[v (by rw[EN V];decide)];exact af
  ·
   rw[eT h3];exact af
 ·
  rw[decide_eq_false h0,Bool.false_and];exact af
theorem E_:∀l:List Int,nU (aG l)=some l
 |[]=>rfl
 |x::l=>by
  show nU ([.int .i64 x]::aG l)=_
  unfold nU;rw[E_ l]
theorem Fa:∀l:List Tb,nV (br l)=some l
 |[]=>rfl
 |t::l=>by
  show nV ([.str t.name,.int .i64 t.kind,.arr (aG t.au),.int .i64 t.lo,.int .i64 t.hi,.int .i64 t.first]::br l)=_
  unfold nV;rw[Fa l,E_]
theorem Fb:∀l:List Hde,nW (cG l)=some l
 |[]=>rfl
 |h::l=>by
  show nW ([.int .i64 h.table,.int .i64 h.eE,.int .i64 h.to]::cG l)=_
  unfold nW;rw[Fb l]
def OB(m:Md):fS ⟨[],m.tables,[],[],[],[],m.aI⟩=fS m:=rfl
def OC{m:Md}{l:List (Int×Int)}(hm:bt m):Cl ai 98 [.t (.agg (dh m l))] [] (.t (.bool (fS m))) []:=by
 refine Cl.ext (xs:=[.agg (dh m l)]) rfl rfl (EY rfl ?_);have h1:=hm.tables;have h2:=hm.aI;have u:Nat.ble (br m.tables).length 17592186044416=true:=by rw[Nat.ble_eq,e9];exact h1
 have v:Nat.ble (cG m.aI).length 17592186044416=true:=by rw[Nat.ble_eq,qK];exact h2
 unfold l7 dh ax;simp only[Nat.beq_refl,u,v,Bool.and_self,Fa,Fb,OB]
def OD{m:Md}(hv:bH m.ak m.tables=true):∀r∈bx m.ak m.tables true,-1000000<=r.1/\r.1<=1000000:=by
 intro r v;unfold bx at v;rw[if_pos hv]at v;obtain⟨t,z,u⟩:=List.mem_flatMap.1 v;obtain⟨k,y⟩:=List.mem_iff_getElem?.1 z;have h1:=qv hv y;rw[D_]at h1;unfold ee at u;split at u
 ·obtain rfl:=List.eq_of_mem_replicate u;have:=h1.2.2.2.2.1;dsimp only;omega
 ·cases u
def zC{m:Md}(hm:bt m)(ab:∀a∈m.ay,iC a.eff)(ad:m.ops.length<=4398046511104):Cl ai 56 [.t (bz m)] [] (.t (.bool (cm m))) []:=by
 rw[<- Kj];have an:=mY m.bw;have ap:=hm.bw;have kv:=zy (S:=m.ak) (L:=m.tables) (by have:=hm.ak;omega) (by have:=hm.tables;omega) (fun t ht=>by have:=hm.au t ht;omega);have kd:=E6 (N:=m.bw) (by omega)
 cases u:bH m.ak m.tables with
 |false=>
  have e0:qE m=false:=by unfold qE;rw[u4,u];rfl
  rw[u]at kv;rw[aW,e0];refine Cl.ao rfl Tryz.func56 rfl rfl rfl ?_;exact af
 |true=>
  have kr:=E5 (S:=m.ak) (L:=m.tables) true u;have ag:=OD u;have al:=sk m.ak true m.tables
  have U:(bx m.ak m.tables true).length<=100000:=by
   have h1:=jT (S:=m.ak) true m.tables;have h2:=iQ u;unfold bx;rw[if_pos u];omega
  have kc:=Ot u hm U ag;have Z:=Ow (l:=bx m.ak m.tables true) hm ad;have V:=fun h=>OA (l:=bx m.ak m.tables true) u hm ab h U;have kh:=OC (l:=bx m.ak m.tables true) hm;rw[u]at kv;obtain⟨R,hR⟩:∃R,bx m.ak m.tables true=R:=⟨_,rfl⟩;rw[hR]at kr kc Z V kh;obtain⟨d,hd⟩:∃d,gu m.bw=d:=⟨_,rfl⟩;obtain⟨b1,G⟩:∃b,qC m R=b:=⟨_,rfl⟩;obtain⟨D,v⟩:∃b,(decide ((m.ops.map (·.name)).length<=8)&&gu (m.ops.map (·.name)))=b:=⟨_,rfl⟩;obtain⟨b2,y⟩:∃b,m.ops.all (dU m)=b:=⟨_,rfl⟩;obtain⟨b3,I⟩:∃b,(decide (m.ay.length<=256)&&allI (dB m R.length) m.ay)=b:=⟨_,rfl⟩;obtain⟨b4,J⟩:∃b,fS m=b:=⟨_,rfl⟩;have e0:qE m=((decide (m.bw.length<=24)&&d)&&(b1&&((D&&b2)&&(b3&&b4)))):=by unfold qE;rw[u4,u,hR,hd,G,v,y,I,J];rfl
  rw[hd]at kd;rw[G]at kc;rw[v,y]at Z;rw[y,I]at V;rw[J]at kh;unfold dh at kc Z V kh;rw[aW];rw[e0];refine Cl.ao rfl Tryz.func56 rfl rfl rfl ?_;by_cases hf:m.bw.length<=24
  ·
   rw[decide_eq_true hf]
   cases d with
   |false=>
    exact af
   |true=>
    cases b1 with
    |false=>
     exact af
    |true=>
     obtain⟨o2,z⟩:∃o,(D&&b2)=o:=⟨_,rfl⟩;rw[z]at Z⊢
     cases o2 with
     |false=>
      exact af
     |true=>
      rw[Bool.and_eq_true]at z;have V:=V z.2
      cases b3 with
      |false=>
       exact af
      |true=>
       exact af
  ·
   rw[decide_eq_false hf];exact af
def OE{m:Md}(hm:bt m)(u:∀a∈m.ay,iC a.eff)(v:m.ops.length<=4398046511104)(h:cm m=true):Cl ai 71 [.t (bz m),.t (.bool true)] [] (.ls 0) [.row false false 2 (bJ (bx m.ak m.tables true))]:=by
 have y:=zC hm u v
 have z:bH m.ak m.tables=true:=by
  unfold cm at h;simp only[Bool.and_eq_true]at h;exact h.1.1.1
 have D:=E5 (S:=m.ak) (L:=m.tables) true z;rw[h]at y;rw[aW]at y⊢;refine Cl.ao rfl Tryz.func71 rfl rfl rfl ?_;exact af
def Fc{m:Md}(hm:bt m)(u:∀a∈m.ay,iC a.eff)(v:m.ops.length<=4398046511104)(h:cm m=true):Cl ai 30 [.t (bz m)] [] (.ls 0) [.row false false 2 (bJ (bx m.ak m.tables true))]:=by
 have y:=OE hm u v h;rw[aW]at y⊢;refine Cl.ao rfl Tryz.func30 rfl rfl rfl ?_;exact af
end Go.Proofs.YtjolgbkkocjpgaaGreatDoor
