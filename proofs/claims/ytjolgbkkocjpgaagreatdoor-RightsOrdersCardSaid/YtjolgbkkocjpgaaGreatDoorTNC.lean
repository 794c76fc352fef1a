/- The reference's models,part by part,as contracts: ranges,sets,lists in order,graphs,chains of references. No condition. -/
import Derived.Test.YtjolgbkkocjpgaaGreatDoorTN
set_option linter.defProp false
set_option linter.unusedSimpArgs false
set_option linter.unusedVariables false
set_option linter.unusedSectionVars false
namespace Go.Proofs.YtjolgbkkocjpgaaGreatDoor
open Go.RowKit
set_option maxRecDepth 100000
set_option maxHeartbeats 16000000
def aW(m:Md):bz m=.agg [ax m.ak,.arr (br m.tables),.arr (b5 m.bw),.arr (dN m.cons),.arr (dO m.ops),.arr (de m.ay),.arr (cG m.aI)]:=rfl
def El{m:Md}(h:bt m):Cl ai 125 [.t (bz m)] [] (.ls 0) [.row false false 2 (bJ (bx m.ak m.tables true))]:=by
 have v:=MI (S:=m.ak) (L:=m.tables) true (by have:=h.ak;omega) (by have:=h.tables;omega) (fun t u=>by have:=h.au t u;omega);rw[aW];refine Cl.ao rfl Tryz.func125 rfl rfl rfl ?_;exact af
def MM(k:Int):Cl ai 165 [.t (.int .i64 k)] [] (.t (.bool (nN k))) []:=by
 refine Cl.ao rfl Tryz.func165 rfl rfl rfl ?_
 repeat'(first
|(with_reducible apply ac.seq)
|((with_reducible apply ac.text);(try case hm=>exact rfl))
|(with_reducible apply ac.ret)
|((with_reducible apply aa.bc)<;>intro u)
|((with_reducible apply aa.bg)<;>intro u)
|(with_reducible apply aa.ap)
|((with_reducible apply aa.gf);(case hW=>exact rfl))
|((with_reducible apply aa.aD);(case hW=>exact rfl);(case hx=>exact ah))
|((with_reducible apply aa.u0);(case hx=>exact ah))
|fail)
 all_goals(refine aZ (.inr rfl) rfl ?_;unfold nN;first|(simp_all;done)|(simp_all;omega))
def MN{A B:List Int}{q:Nat}{x y:Int}(hx:A[q]?=some x)(hy:B[q]?=some y):iu (A.drop q) (B.drop q)=if x=y then iu (A.drop (q+1)) (B.drop (q+1))else decide (x <y):=by
 rw[bS hx,bS hy];rfl
def MO{A B:List Int}{q:Nat}(v:q<=A.length)(z:q<=B.length)(h:A.length<=q\/B.length<=q):iu (A.drop q) (B.drop q)=decide (A.length <B.length):=by
 rcases Nat.lt_or_ge q B.length with h1|h1
 ·have h2:A.length<=q:=by omega
  rw[fE h2];obtain⟨y,u⟩:=am h1;rw[bS u,decide_eq_true (show A.length <B.length by omega)];rfl
 ·rw[fE h1,decide_eq_false (show¬A.length <B.length by omega)];cases A.drop q <;>rfl
def MP{A B:List Int}(hA:A.length<=140737488351232)(hB:B.length<=140737488351232):Cl ai 130 [.t (ax A),.t (ax B)] [] (.t (.bool (iu A B))) []:=by
 have V:=aQ A;have Z:=aQ B;have G:iu A B=iu (A.drop 0) (B.drop 0):=rfl;rw[G];refine Cl.ao rfl Tryz.func130 rfl rfl rfl ?_;refine ar ?_;refine aC.ind (fun q:Nat=>[(5,.t (.int .i64 (q:Int)))]) (fun q=>q<=A.length/\q<=B.length/\iu (A.drop 0) (B.drop 0)=iu (A.drop q) (B.drop q)) (fun q=>A.length - q) 0 rfl ⟨by omega,by omega,rfl⟩ (fun q z=>?_);obtain⟨h1,h2,h3⟩:=z;rw[h3];by_cases h4:q <A.length/\q <B.length
 ·
  obtain⟨u,I⟩:=h4;obtain⟨x,hx⟩:=am u;obtain⟨y,D⟩:=am I;have J:=aU hx;have U:=aU D;rw[MN hx D];by_cases v:x=y
  ·
   rw[if_pos v];refine ar ?_;exact⟨q+1,rfl,rfl,⟨by omega,by omega,rfl⟩,by omega⟩
  ·
   rw[if_neg v]
   repeat'(first
|(with_reducible first|apply ac.seq|apply ac.block)
|((with_reducible apply ac.text);(try case hm=>exact rfl))
|((with_reducible apply ac.drawn);(case hm=>exact rfl))
|(with_reducible first|apply ac.skip|apply ac.ret|apply az|apply aV|apply bq)
|((with_reducible apply ac.aA);(case hc=>exact rfl))
|((with_reducible apply aa.aE);(case hp=>exact aj))
|((with_reducible apply aa.bc)<;>intro z)
|((with_reducible apply aa.gN);(case hp=>exact aj))
|((with_reducible apply aa.cd);(case hp=>exact aj))
|(with_reducible apply aa.ap)
|((with_reducible apply aa.aD);(case hW=>exact rfl);(case hx=>exact ah))
|((with_reducible apply aa.u0);(case hx=>exact ah))
|fail)
   all_goals(refine aZ (.inr rfl) rfl ?_;simp_all;try omega)
 ·
  rw[MO h1 h2 (by omega)];rcases Nat.lt_or_ge q A.length with u|u
  ·
   exact af
  ·
   exact af
def vR{S:List Int}{c:Cn}{t:Tb}:gT S c t=true↔t.kind=0/\t.au.length=2/\t.au.getD 0 0=t.au.getD 1 0/\t.first=c.first/\S.getD (t.au.getD 0 0).toNat 0=c.size:=by
 unfold gT;simp only[Bool.and_eq_true,decide_eq_true_eq]
def Em{l:List Int}(h:l.length=2):∃a b,l=[a,b]:=by
 match l,h with
 |[a,b],_=>exact⟨a,b,rfl⟩
def MQ{m:Md}{c:Cn}(hm:bt m)(hv:bH m.ak m.tables=true)(hc:c.row.a_.length<=140737488351232):Cl ai 128 [.t (bz m),.t (.agg (lj c))] [] (.t (.bool (jm m c))) []:=by
 obtain⟨Z,J,⟨T,I⟩,y,sz⟩:=c;have hT:=l8 T;have hc:T.length<=140737488351232:=hc;have aL:=aQ m.ak;have aI:=e9 m.tables;have al:=iQ hv;rw[aW];have e1:lj ⟨Z,J,⟨T,I⟩,y,sz⟩=[.int .i64 Z,.int .i64 J,.arr (dM T),.int .i64 I,.int .i64 y,.int .i64 sz]:=rfl;rw[e1];refine Cl.ao rfl Tryz.func128 rfl rfl rfl ?_;by_cases h0:T.length=0/\I=0
 ·
  obtain⟨ab,rfl⟩:=h0;obtain⟨C,U⟩:∃C:Cn,(⟨Z,J,⟨T,0⟩,y,sz⟩:Cn)=C:=⟨_,rfl⟩
  have hg:jm m C=(m.tables.drop 0).any (gT m.ak C):=by
   rw[<- U];unfold jm;simp[ab]
  have ad:C.first=y:=by rw[<- U]
  have ag:C.size=sz:=by rw[<- U]
  rw[U,hg];refine ar ?_;refine aC.ind (fun q:Nat=>[(5,.t (.int .i64 (q:Int)))]) (fun q=>q<=m.tables.length/\(m.tables.drop 0).any (gT m.ak C)=(m.tables.drop q).any (gT m.ak C)) (fun q=>m.tables.length - q) 0 rfl ⟨by omega,rfl⟩ (fun q V=>?_);obtain⟨h1,h2⟩:=V;rw[h2];rcases Nat.lt_or_ge q m.tables.length with h3|h3
  ·
   obtain⟨t,ht⟩:=am h3;have aS:=eK ht;have z:=sd (gT m.ak C) ht;obtain⟨c1,c2,c3⟩:=jp hv ht;have ay:=aQ t.au;by_cases hl:t.au.length=2
   ·
    obtain⟨a,b,u⟩:=Em hl;rw[u]at c3;simp only[List.all_cons,Bool.and_eq_true]at c3;have D:=c3.1;simp only[cg,Bool.and_eq_true,decide_eq_true_eq]at D;obtain⟨g3,g4⟩:=D;obtain⟨s,G⟩:=am (xs:=m.ak) (k:=a.toNat) (by omega);have aR:=aU G
    have hP:gT m.ak C t=true↔t.kind=0/\a=b/\t.first=y/\s=sz:=by
     have ea:t.au.getD 0 0=a:=by rw[u];rfl
     have eb:t.au.getD 1 0=b:=by rw[u];rfl
     rw[vR,ea,eb,ad,ag,eR G];simp[hl]
    have an:(aG t.au)[0]?=some [.int .i64 a]:=aU (by rw[u];rfl);have aw:(aG t.au)[1]?=some [.int .i64 b]:=aU (by rw[u];rfl);by_cases v:t.kind=0/\a=b/\t.first=y/\s=sz
    ·
     rw[z,hP.2 v,Bool.true_or];obtain⟨k1,k2,k3,k4⟩:=v;exact af
    ·
     have hf:gT m.ak C t=false:=by rw[<- Bool.not_eq_true,hP];exact v
     rw[z,hf,Bool.false_or]
     repeat'(first
|(with_reducible first|apply ac.seq|apply ac.block)
|((with_reducible apply ac.text);(try case hm=>exact rfl))
|((with_reducible apply ac.drawn);(case hm=>exact rfl))
|(with_reducible first|apply ac.skip|apply az|apply bk)
|((with_reducible apply ac.aA);(case hc=>exact rfl))
|((with_reducible apply ac.aH);(case hc=>exact rfl))
|((with_reducible apply aa.aE);(case hp=>exact aj))
|((with_reducible apply aa.bc)<;>intro V)
|((with_reducible apply aa.cd);(case hp=>exact aj))
|((with_reducible apply aa.cA);(case hp=>exact aj))
|((with_reducible apply aa.bg)<;>intro V)
|(with_reducible apply aa.ap)
|((with_reducible apply aa.gf);(case hW=>exact rfl))
|((with_reducible apply aa.aD);(case hW=>exact rfl);(case hx=>exact ah))
|((with_reducible apply aa.u0);(case hx=>exact ah))
|fail)
     all_goals first
      |exact⟨q+1,rfl,rfl,⟨by omega,rfl⟩,by omega⟩
      |(exfalso;apply v;refine⟨?_,?_,?_,?_⟩<;>first|assumption|omega)
   ·
    have hf:gT m.ak C t=false:=by rw[<- Bool.not_eq_true,vR];exact fun h=>hl h.2.1
    rw[z,hf,Bool.false_or];exact af
  ·
   rw[sf _ h3];exact af
 ·
  have hg:jm m ⟨Z,J,⟨T,I⟩,y,sz⟩=false:=by
   rw[<- Bool.not_eq_true];unfold jm;simp only[Bool.and_eq_true,decide_eq_true_eq];exact fun h=>h0 h.1
  rw[hg]
  repeat'(first
|(with_reducible apply ac.seq)
|((with_reducible apply ac.text);(try case hm=>exact rfl))
|(with_reducible first|apply ac.ret|apply aV)
|((with_reducible apply ac.aA);(case hc=>exact rfl))
|((with_reducible apply aa.bc)<;>intro V)
|((with_reducible apply aa.fQ);(case hp=>exact aj))
|(with_reducible apply aa.ap)
|((with_reducible apply aa.gf);(case hW=>exact rfl))
|((with_reducible apply aa.aD);(case hW=>exact rfl);(case hx=>exact ah))
|((with_reducible apply aa.u0);(case hx=>exact ah))
|fail)
  all_goals first
   |exact⟨.inr rfl,rfl⟩
   |(exfalso;apply h0;constructor <;>omega)
def MR(l:List Hde)(n:Nat)(a b:Int):b8 l (n+1) a b=(decide (a=b)||(l.drop 0).any fun h=>decide (h.table=a)&&b8 l n h.to b):=rfl
def MS{m:Md}(hm:bt m):∀(n:Nat) (N a b:Int),N=n->n<=1000->Cl ai 132 [.t (bz m),.t (.int .i64 a),.t (.int .i64 b),.t (.int .i64 N)] [] (.t (.bool (b8 m.aI n a b))) []:=by
 intro n;have V:=qK m.aI;have Z:=hm.aI;rw[aW]
 induction n with
 |zero=>
  intro N a b J hn;have I:b8 m.aI 0 a b=decide (a=b):=rfl;rw[I];refine Cl.ao rfl Tryz.func132 rfl rfl rfl ?_;by_cases y:a=b
  ·
   rw[decide_eq_true y];exact af
  ·
   rw[decide_eq_false y];refine ar ?_;refine aC.step ?_;exact af
 |succ n ih=>
  intro N a b J hn;rw[MR];refine Cl.ao rfl Tryz.func132 rfl rfl rfl ?_;by_cases y:a=b
  ·
   rw[decide_eq_true y,Bool.true_or];exact af
  ·
   rw[decide_eq_false y,Bool.false_or];obtain⟨f,D⟩:∃f:Hde->Bool,(fun h=>decide (h.table=a)&&b8 m.aI n h.to b)=f:=⟨_,rfl⟩;rw[D];refine ar ?_;refine aC.ind (fun q:Nat=>[(9,.t (.int .i64 (q:Int)))]) (fun q=>q<=m.aI.length/\(m.aI.drop 0).any f=(m.aI.drop q).any f) (fun q=>m.aI.length - q) 0 rfl ⟨by omega,rfl⟩ (fun q hq=>?_);obtain⟨h1,h2⟩:=hq;rw[h2];rcases Nat.lt_or_ge q m.aI.length with h3|h3
   ·
    obtain⟨h,G⟩:=am h3;have U:=qN G;have u:=sd f G;have kl:=ih (N - 1) h.to b (by omega) (by omega);have v:f h=(decide (h.table=a)&&b8 m.aI n h.to b):=by rw[<- D]
    obtain⟨r,hr⟩:∃r,b8 m.aI n h.to b=r:=⟨_,rfl⟩;rw[hr]at kl v;by_cases z:h.table=a
    ·
     rw[decide_eq_true z,Bool.true_and]at v;rw[v]at u
     cases r with
     |true=>
      rw[u,Bool.true_or];exact af
     |false=>
      rw[Bool.false_or]at u;rw[u];exact af
    ·
     rw[decide_eq_false z,Bool.false_and]at v;rw[v,Bool.false_or]at u;rw[u];exact af
   ·
    rw[sf _ h3];exact af
def En{i:Int}{n:Nat}:qt i n=true↔0<=i/\i <n:=by
 unfold qt;simp only[Bool.and_eq_true,decide_eq_true_eq]
def Eo{m:Md}{h:Hde}(hn:¬(0<=h.table/\h.table <m.tables.length/\0<=h.to/\h.to <m.tables.length/\h.table≠h.to)):eG m h=false:=by
 rw[<- Bool.not_eq_true];intro u;unfold eG at u;simp only[Bool.and_eq_true,En,Bool.not_eq_true',decide_eq_false_iff_not]at u;exact hn ⟨u.1.1.1,u.1.1.2,u.1.2.1.1,u.1.2.1.2,u.1.2.2⟩
def Ep{m:Md}{h:Hde}{t u:Tb}(v:0<=h.table/\h.table <m.tables.length/\0<=h.to/\h.to <m.tables.length/\h.table≠h.to)(ht:m.tables[h.table.toNat]?=some t)(z:m.tables[h.to.toNat]?=some u):eG m h=true↔t.kind=0/\u.kind=0/\(0<=h.eE/\h.eE <t.au.length)/\u.au.length=1/\u.au.getD 0 0=t.au.getD h.eE.toNat 0:=by
 unfold eG;rw[List.getD_eq_getElem?_getD,List.getD_eq_getElem?_getD,ht,z];simp only[Bool.and_eq_true,En,Bool.not_eq_true',decide_eq_false_iff_not,decide_eq_true_eq,Option.getD_some];constructor
 ·rintro⟨_,⟨h1,h2⟩,h3,h4,y⟩;exact⟨h1,h2,h3,h4,y⟩
 ·rintro⟨h1,h2,h3,h4,y⟩;exact⟨⟨⟨v.1,v.2.1⟩,⟨v.2.2.1,v.2.2.2.1⟩,v.2.2.2.2⟩,⟨h1,h2⟩,h3,h4,y⟩
def Er{l:List Int}(h:l.length=1):∃a,l=[a]:=by
 match l,h with
 |[a],_=>exact⟨a,rfl⟩
def MT{m:Md}(hm:bt m)(hv:bH m.ak m.tables=true):Cl ai 89 [.t (bz m)] [] (.t (.bool (fS m))) []:=by
 have al:=qK m.aI;have an:=e9 m.tables;have ag:=iQ hv;have kL:=fun a b=>MS hm m.tables.length (m.tables.length:Int) a b rfl (by omega);rw[aW]at kL⊢;refine Cl.ao rfl Tryz.func89 rfl rfl rfl ?_;by_cases V:m.aI.length<=12
 ·
  have e0:fS m=((m.aI.drop 0).all (eG m)&&(m.aI.drop 0).all fun h=>!b8 m.aI m.tables.length h.to h.table):=by unfold fS;simp[V]
  obtain⟨Y,hY⟩:∃Y,((m.aI.drop 0).all fun h=>!b8 m.aI m.tables.length h.to h.table)=Y:=⟨_,rfl⟩;rw[e0,hY];refine ar ?_;refine aC.ind (fun q:Nat=>[(3,.t (.int .i64 (q:Int)))]) (fun q=>q<=m.aI.length/\(m.aI.drop 0).all (eG m)=(m.aI.drop q).all (eG m)) (fun q=>m.aI.length - q) 0 rfl ⟨by omega,rfl⟩ (fun q I=>?_);obtain⟨h1,h2⟩:=I;rw[h2];rcases Nat.lt_or_ge q m.aI.length with h3|h3
  ·
   obtain⟨h,hh⟩:=am h3;have ab:=qN hh;have v:=iO (eG m) hh;by_cases hA:0<=h.table/\h.table <m.tables.length/\0<=h.to/\h.to <m.tables.length/\h.table≠h.to
   ·
    obtain⟨t,ht⟩:=am (xs:=m.tables) (k:=h.table.toNat) (by omega);obtain⟨u,hu⟩:=am (xs:=m.tables) (k:=h.to.toNat) (by omega);have aL:=eK ht;have aR:=eK hu;have aw:=aQ t.au;have ay:=aQ u.au;have D:=Ep hA ht hu;obtain⟨a1,a2,a3,a4,a5⟩:=hA;by_cases hB:(0<=h.eE/\h.eE <t.au.length)/\u.au.length=1
    ·
     obtain⟨⟨b1,b2⟩,b3⟩:=hB;obtain⟨y,hy⟩:=Er b3;obtain⟨z,hz⟩:=am (xs:=t.au) (k:=h.eE.toNat) (by omega);have aS:(aG u.au)[0]?=some [.int .i64 y]:=aU (by rw[hy];rfl);have a6:=aU hz;have ey:u.au.getD 0 0=y:=by rw[hy];rfl
     rw[ey,eR hz]at D;by_cases U:t.kind=0/\u.kind=0/\y=z
     ·
      have ad:eG m h=true:=D.2 ⟨U.1,U.2.1,⟨b1,b2⟩,b3,U.2.2⟩;rw[ad,Bool.true_and]at v;obtain⟨p1,p2,p3⟩:=U;rw[v];exact af
     ·
      have G:eG m h=false:=by rw[<- Bool.not_eq_true,D];exact fun J=>U ⟨J.1,J.2.1,J.2.2.2.2⟩
      rw[v,G,Bool.false_and,Bool.false_and]
      repeat'(first
|(with_reducible first|apply ac.seq|apply ac.block)
|((with_reducible apply ac.text);(try case hm=>exact rfl))
|((with_reducible apply ac.drawn);(case hm=>exact rfl))
|((with_reducible apply ac.oK);(case hm|he=>exact rfl))
|(with_reducible first|apply ac.skip|apply ac.ret|apply az|apply aV|apply bq)
|((with_reducible apply ac.aA);(case hc=>exact rfl))
|((with_reducible apply ac.aH);(case hc=>exact rfl))
|((with_reducible apply aa.aE);(case hp=>exact aj))
|((with_reducible apply aa.bC);(case hp=>exact aj))
|((with_reducible apply aa.fP)<;>intro I)
|((with_reducible apply aa.cA);(case hp=>exact aj))
|((with_reducible apply aa.fQ);(case hp=>exact aj))
|((with_reducible apply aa.fB);(case hp=>exact aj))
|((with_reducible apply aa.fg)<;>intro I)
|(with_reducible apply aa.ap)
|((with_reducible apply aa.gf);(case hW=>exact rfl))
|((with_reducible apply aB.oM);(case hck=>kernel_rfl))
|((with_reducible apply aB.u);(case hfl=>kernel_rfl);(case hx=>exact ah))
|((with_reducible apply aa.aD);(case hW=>exact rfl);(case hx=>exact ah))
|((with_reducible apply aa.u0);(case hx=>exact ah))
|fail)
      all_goals first
       |exact⟨.inr rfl,rfl⟩
       |(exfalso;apply U;refine⟨?_,?_,?_⟩<;>first|assumption|omega)
    ·
     have G:eG m h=false:=by rw[<- Bool.not_eq_true,D];exact fun J=>hB ⟨J.2.2.1,J.2.2.2.1⟩
     rw[v,G,Bool.false_and,Bool.false_and];rcases Int.lt_or_le h.eE 0 with b1|b1
     ·
      exact af
     ·
      rcases Int.lt_or_le h.eE t.au.length with b2|b2
      ·
       have b3:u.au.length≠1:=fun e=>hB ⟨⟨b1,b2⟩,e⟩;exact af
      ·
       exact af
   ·
    have G:=Eo hA;rw[v,G,Bool.false_and,Bool.false_and]
    repeat'(first
|(with_reducible first|apply ac.seq|apply ac.block)
|((with_reducible apply ac.text);(try case hm=>exact rfl))
|(with_reducible first|apply ac.skip|apply ac.ret|apply az|apply aV|apply bq)
|((with_reducible apply ac.aA);(case hc=>exact rfl))
|((with_reducible apply aa.aE);(case hp=>exact aj))
|((with_reducible apply aa.bc)<;>intro I)
|((with_reducible apply aa.cd);(case hp=>exact aj))
|((with_reducible apply aa.bg)<;>intro I)
|(with_reducible apply aa.ap)
|((with_reducible apply aa.gf);(case hW=>exact rfl))
|((with_reducible apply aa.aD);(case hW=>exact rfl);(case hx=>exact ah))
|((with_reducible apply aa.u0);(case hx=>exact ah))
|fail)
    all_goals first
     |exact⟨.inr rfl,rfl⟩
     |(exfalso;omega)
  ·
   rw[gR _ h3,Bool.true_and,<- hY];obtain⟨f,hf⟩:∃f:Hde->Bool,(fun h=>!b8 m.aI m.tables.length h.to h.table)=f:=⟨_,rfl⟩;rw[hf];refine ar ?_;refine aC.ind (fun q:Nat=>[(7,.t (.int .i64 (q:Int)))]) (fun q=>q<=m.aI.length/\(m.aI.drop 0).all f=(m.aI.drop q).all f) (fun q=>m.aI.length - q) 0 rfl ⟨by omega,rfl⟩ (fun q I=>?_);obtain⟨g1,g2⟩:=I;rw[g2];rcases Nat.lt_or_ge q m.aI.length with g3|g3
   ·
    obtain⟨h,hh⟩:=am g3;have ab:=qN hh;have v:=iO f hh;have kl:=kL h.to h.table;have Z:f h=!b8 m.aI m.tables.length h.to h.table:=by rw[<- hf]
    obtain⟨r,hr⟩:∃r,b8 m.aI m.tables.length h.to h.table=r:=⟨_,rfl⟩;rw[hr]at kl;rw[hr]at Z;rw[Z]at v;rw[v]
    cases r with
    |true=>
     exact af
    |false=>
     exact af
   ·
    rw[gR _ g3];exact af
 ·
  have e0:fS m=false:=by unfold fS;rw[decide_eq_false V];rfl
  rw[e0];exact af
end Go.Proofs.YtjolgbkkocjpgaaGreatDoor
