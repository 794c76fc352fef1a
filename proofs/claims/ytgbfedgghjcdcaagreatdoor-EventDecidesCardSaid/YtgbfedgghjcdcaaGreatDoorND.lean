/- The reference's models,part by part,as contracts:. No condition. -/
import Derived.Test.YtgbfedgghjcdcaaGreatDoorNC
set_option linter.all false
namespace Go.Proofs.YtgbfedgghjcdcaaGreatDoor
open Go.RowKit
set_option maxRecDepth 100000
set_option maxHeartbeats 16000000
def xD{i:Int}{n:Nat}:pb i n=true↔0<=i/\i <n:=by
 unfold pb;simp only[Bool.and_eq_true,decide_eq_true_eq]
def D9{m:Md}{h:bH}(hn:¬(0<=h.table/\h.table <m.tables.length/\0<=h.to/\h.to <m.tables.length/\h.table≠h.to)):im m h=false:=by
 rw[<- Bool.not_eq_true];intro u;unfold im at u;simp only[Bool.and_eq_true,xD,Bool.not_eq_true',decide_eq_false_iff_not]at u;exact hn ⟨u.1.1.1,u.1.1.2,u.1.2.1.1,u.1.2.1.2,u.1.2.2⟩
def D_{m:Md}{h:bH}{t u:Tb}(v:0<=h.table/\h.table <m.tables.length/\0<=h.to/\h.to <m.tables.length/\h.table≠h.to)(ht:m.tables[h.table.toNat]?=some t)(z:m.tables[h.to.toNat]?=some u):im m h=true↔t.kind=0/\u.kind=0/\(0<=h.ig/\h.ig <t.aB.length)/\u.aB.length=1/\u.aB.getD 0 0=t.aB.getD h.ig.toNat 0:=by
 unfold im;rw[List.getD_eq_getElem?_getD,List.getD_eq_getElem?_getD,ht,z];simp only[Bool.and_eq_true,xD,Bool.not_eq_true',decide_eq_false_iff_not,decide_eq_true_eq,Option.getD_some];constructor
 ·rintro⟨_,⟨h1,h2⟩,h3,h4,y⟩;exact⟨h1,h2,h3,h4,y⟩
 ·rintro⟨h1,h2,h3,h4,y⟩;exact⟨⟨⟨v.1,v.2.1⟩,⟨v.2.2.1,v.2.2.2.1⟩,v.2.2.2.2⟩,⟨h1,h2⟩,h3,h4,y⟩
def EU{l:List Int}(h:l.length=1):∃a,l=[a]:=by
 match l,h with
 |[a],_=>exact⟨a,rfl⟩
def GD{m:Md}(hm:cW m)(hv:ce m.aq m.tables=true):Cl ap 101 [.t (di m)] [] (.t (.bool (l5 m))) []:=by
 have an:=xB m.bq;have aJ:=gV m.tables;have al:=k_ hv;have kL:=fun a b=>GI hm m.tables.length (m.tables.length:Int) a b rfl (by omega);rw[cO]at kL⊢;refine Cl.aE rfl Tryz.func101 rfl rfl rfl ?_;by_cases Q:m.bq.length<=12
 ·
  have e0:l5 m=((m.bq.drop 0).all (im m)&&(m.bq.drop 0).all fun h=>!bS m.bq m.tables.length h.to h.table):=by unfold l5;simp[Q]
  obtain⟨Y,hY⟩:∃Y,((m.bq.drop 0).all fun h=>!bS m.bq m.tables.length h.to h.table)=Y:=⟨_,rfl⟩;rw[e0,hY]
  repeat'(first
|(with_reducible first|apply aa.seq|apply aa.block)
|((with_reducible apply aa.text);(try case hm=>exact rfl))
|(with_reducible first|apply aa.skip|apply ai)
|((with_reducible apply aa.ak);(case hc=>exact rfl))
|((with_reducible apply ab.aw);(case hp=>exact ae))
|(with_reducible apply ab.af)
|((with_reducible apply ab.u0);(case hx=>exact ac))
|fail)
  apply aa.aM
  case ho=>exact rfl
  case hp=>exact rfl
  case hl=>exact rfl
  case hs=>exact slt
  refine aI.ind (fun q:Nat=>[(3,.t (.int .i64 (q:Int)))]) (fun q=>q<=m.bq.length/\(m.bq.drop 0).all (im m)=(m.bq.drop q).all (im m)) (fun q=>m.bq.length - q) 0 rfl ⟨by omega,rfl⟩ (fun q G=>?_);obtain⟨h1,h2⟩:=G;rw[h2];rcases Nat.lt_or_ge q m.bq.length with h3|h3
  ·
   obtain⟨h,V⟩:=av h3;have ad:=uw V;have v:=ib (im m) V;by_cases hA:0<=h.table/\h.table <m.tables.length/\0<=h.to/\h.to <m.tables.length/\h.table≠h.to
   ·
    obtain⟨t,ht⟩:=av (xs:=m.tables) (k:=h.table.toNat) (by omega);obtain⟨u,hu⟩:=av (xs:=m.tables) (k:=h.to.toNat) (by omega);have aQ:=fZ ht;have aY:=fZ hu;have aL:=bC t.aB;have aN:=bC u.aB;have D:=D_ hA ht hu;obtain⟨a1,a2,a3,a4,a5⟩:=hA;by_cases hB:(0<=h.ig/\h.ig <t.aB.length)/\u.aB.length=1
    ·
     obtain⟨⟨Z,b2⟩,b3⟩:=hB;obtain⟨y,hy⟩:=EU b3;obtain⟨z,hz⟩:=av (xs:=t.aB) (k:=h.ig.toNat) (by omega);have a6:(aW u.aB)[0]?=some [.int .i64 y]:=bB (by rw[hy];rfl);have a7:=bB hz;have ey:u.aB.getD 0 0=y:=by rw[hy];rfl
     rw[ey,dt hz]at D;by_cases O:t.kind=0/\u.kind=0/\y=z
     ·
      have ag:im m h=true:=D.2 ⟨O.1,O.2.1,⟨Z,b2⟩,b3,O.2.2⟩;rw[ag,Bool.true_and]at v;obtain⟨p1,p2,p3⟩:=O;rw[v]
      repeat'(first
|(with_reducible first|apply aa.seq|apply aa.block)
|((with_reducible apply aa.text);(try case hm=>exact rfl))
|((with_reducible apply aa.drawn);(case hm=>exact rfl))
|((with_reducible apply aa.lR);(case hm|he=>exact rfl))
|(with_reducible first|apply aa.skip|apply ai|apply aG)
|((with_reducible apply aa.am);(case hc=>exact rfl))
|((with_reducible apply aa.ak);(case hc=>exact rfl))
|((with_reducible apply ab.ao);(case hp=>exact ae))
|((with_reducible apply ab.aw);(case hp=>exact ae))
|((with_reducible apply ab.cz);(case hp=>exact ae))
|((with_reducible apply ab.aV);(case hp=>exact ae))
|((with_reducible apply ab.dF);(case hp=>exact ae))
|(with_reducible apply ab.af)
|((with_reducible apply ax.mb);(case hck=>kernel_rfl))
|((with_reducible apply ax.u);(case hfl=>kernel_rfl);(case hx=>exact ac))
|((with_reducible apply ab.au);(case hW=>exact rfl);(case hx=>exact ac))
|((with_reducible apply ab.u0);(case hx=>exact ac))
|fail)
      exact⟨q+1,rfl,rfl,⟨by omega,rfl⟩,by omega⟩
     ·
      have I:im m h=false:=by rw[<- Bool.not_eq_true,D];exact fun J=>O ⟨J.1,J.2.1,J.2.2.2.2⟩
      rw[v,I,Bool.false_and,Bool.false_and]
      repeat'(first
|(with_reducible first|apply aa.seq|apply aa.block)
|((with_reducible apply aa.text);(try case hm=>exact rfl))
|((with_reducible apply aa.drawn);(case hm=>exact rfl))
|((with_reducible apply aa.lR);(case hm|he=>exact rfl))
|(with_reducible first|apply aa.skip|apply aa.ret|apply ai|apply ay|apply aO)
|((with_reducible apply aa.am);(case hc=>exact rfl))
|((with_reducible apply aa.ak);(case hc=>exact rfl))
|((with_reducible apply ab.ao);(case hp=>exact ae))
|((with_reducible apply ab.aw);(case hp=>exact ae))
|((with_reducible apply ab.fV)<;>intro G)
|((with_reducible apply ab.aV);(case hp=>exact ae))
|((with_reducible apply ab.dQ);(case hp=>exact ae))
|((with_reducible apply ab.dF);(case hp=>exact ae))
|((with_reducible apply ab.ed)<;>intro G)
|(with_reducible apply ab.af)
|((with_reducible apply ab.gf);(case hW=>exact rfl))
|((with_reducible apply ax.mb);(case hck=>kernel_rfl))
|((with_reducible apply ax.u);(case hfl=>kernel_rfl);(case hx=>exact ac))
|((with_reducible apply ab.au);(case hW=>exact rfl);(case hx=>exact ac))
|((with_reducible apply ab.u0);(case hx=>exact ac))
|fail)
      all_goals first
       |exact⟨.inr rfl,rfl⟩
       |(exfalso;apply O;refine⟨?_,?_,?_⟩<;>first|assumption|omega)
    ·
     have I:im m h=false:=by rw[<- Bool.not_eq_true,D];exact fun J=>hB ⟨J.2.2.1,J.2.2.2.1⟩
     rw[v,I,Bool.false_and,Bool.false_and];rcases Int.lt_or_le h.ig 0 with Z|Z
     ·
      repeat'(first
|(with_reducible first|apply aa.seq|apply aa.block)
|((with_reducible apply aa.text);(try case hm=>exact rfl))
|((with_reducible apply aa.drawn);(case hm=>exact rfl))
|((with_reducible apply aa.lR);(case hm|he=>exact rfl))
|(with_reducible first|apply aa.skip|apply aa.ret|apply ai|apply ay|apply aO)
|((with_reducible apply aa.am);(case hc=>exact rfl))
|((with_reducible apply aa.ak);(case hc=>exact rfl))
|((with_reducible apply ab.ao);(case hp=>exact ae))
|((with_reducible apply ab.aw);(case hp=>exact ae))
|((with_reducible apply ab.fV)<;>intro G)
|((with_reducible apply ab.bh);(case hp=>exact ae))
|((with_reducible apply ab.aV);(case hp=>exact ae))
|((with_reducible apply ab.ed)<;>intro G)
|(with_reducible apply ab.af)
|((with_reducible apply ab.gf);(case hW=>exact rfl))
|((with_reducible apply ax.mb);(case hck=>kernel_rfl))
|((with_reducible apply ax.u);(case hfl=>kernel_rfl);(case hx=>exact ac))
|((with_reducible apply ab.au);(case hW=>exact rfl);(case hx=>exact ac))
|((with_reducible apply ab.u0);(case hx=>exact ac))
|fail)
      all_goals exact⟨.inr rfl,rfl⟩
     ·
      rcases Int.lt_or_le h.ig t.aB.length with b2|b2
      ·
       have b3:u.aB.length≠1:=fun e=>hB ⟨⟨Z,b2⟩,e⟩
       repeat'(first
|(with_reducible first|apply aa.seq|apply aa.block)
|((with_reducible apply aa.text);(try case hm=>exact rfl))
|((with_reducible apply aa.drawn);(case hm=>exact rfl))
|((with_reducible apply aa.lR);(case hm|he=>exact rfl))
|(with_reducible first|apply aa.skip|apply aa.ret|apply ai|apply ay|apply aO)
|((with_reducible apply aa.am);(case hc=>exact rfl))
|((with_reducible apply aa.ak);(case hc=>exact rfl))
|((with_reducible apply ab.ao);(case hp=>exact ae))
|((with_reducible apply ab.aw);(case hp=>exact ae))
|((with_reducible apply ab.fV)<;>intro G)
|((with_reducible apply ab.aV);(case hp=>exact ae))
|((with_reducible apply ab.dQ);(case hp=>exact ae))
|((with_reducible apply ab.ed)<;>intro G)
|(with_reducible apply ab.af)
|((with_reducible apply ab.gf);(case hW=>exact rfl))
|((with_reducible apply ax.mb);(case hck=>kernel_rfl))
|((with_reducible apply ax.u);(case hfl=>kernel_rfl);(case hx=>exact ac))
|((with_reducible apply ab.au);(case hW=>exact rfl);(case hx=>exact ac))
|((with_reducible apply ab.u0);(case hx=>exact ac))
|fail)
       all_goals exact⟨.inr rfl,rfl⟩
      ·
       repeat'(first
|(with_reducible first|apply aa.seq|apply aa.block)
|((with_reducible apply aa.text);(try case hm=>exact rfl))
|((with_reducible apply aa.drawn);(case hm=>exact rfl))
|((with_reducible apply aa.lR);(case hm|he=>exact rfl))
|(with_reducible first|apply aa.skip|apply aa.ret|apply ai|apply ay|apply aO)
|((with_reducible apply aa.am);(case hc=>exact rfl))
|((with_reducible apply aa.ak);(case hc=>exact rfl))
|((with_reducible apply ab.ao);(case hp=>exact ae))
|((with_reducible apply ab.aw);(case hp=>exact ae))
|((with_reducible apply ab.fV)<;>intro G)
|((with_reducible apply ab.bh);(case hp=>exact ae))
|((with_reducible apply ab.aV);(case hp=>exact ae))
|((with_reducible apply ab.ed)<;>intro G)
|(with_reducible apply ab.af)
|((with_reducible apply ab.gf);(case hW=>exact rfl))
|((with_reducible apply ax.mb);(case hck=>kernel_rfl))
|((with_reducible apply ax.u);(case hfl=>kernel_rfl);(case hx=>exact ac))
|((with_reducible apply ab.au);(case hW=>exact rfl);(case hx=>exact ac))
|((with_reducible apply ab.u0);(case hx=>exact ac))
|fail)
       all_goals exact⟨.inr rfl,rfl⟩
   ·
    have I:=D9 hA;rw[v,I,Bool.false_and,Bool.false_and]
    repeat'(first
|(with_reducible first|apply aa.seq|apply aa.block)
|((with_reducible apply aa.text);(try case hm=>exact rfl))
|(with_reducible first|apply aa.skip|apply aa.ret|apply ai|apply ay|apply aO)
|((with_reducible apply aa.am);(case hc=>exact rfl))
|((with_reducible apply ab.ao);(case hp=>exact ae))
|((with_reducible apply ab.aU)<;>intro G)
|((with_reducible apply ab.bh);(case hp=>exact ae))
|((with_reducible apply ab.a_)<;>intro G)
|(with_reducible apply ab.af)
|((with_reducible apply ab.gf);(case hW=>exact rfl))
|((with_reducible apply ab.au);(case hW=>exact rfl);(case hx=>exact ac))
|((with_reducible apply ab.u0);(case hx=>exact ac))
|fail)
    all_goals first
     |exact⟨.inr rfl,rfl⟩
     |(exfalso;omega)
  ·
   rw[gv _ h3,Bool.true_and,<- hY];obtain⟨f,hf⟩:∃f:bH->Bool,(fun h=>!bS m.bq m.tables.length h.to h.table)=f:=⟨_,rfl⟩;rw[hf]
   repeat'(first
|(with_reducible first|apply aa.seq|apply aa.block)
|((with_reducible apply aa.text);(try case hm=>exact rfl))
|(with_reducible first|apply aa.exit|apply ai|apply aA|apply az)
|((with_reducible apply aa.ak);(case hc=>exact rfl))
|((with_reducible apply ab.aw);(case hp=>exact ae))
|(with_reducible apply ab.af)
|((with_reducible apply ab.u0);(case hx=>exact ac))
|fail)
   apply aa.aM
   case ho=>exact rfl
   case hp=>exact rfl
   case hl=>exact rfl
   case hs=>exact slt
   refine aI.ind (fun q:Nat=>[(7,.t (.int .i64 (q:Int)))]) (fun q=>q<=m.bq.length/\(m.bq.drop 0).all f=(m.bq.drop q).all f) (fun q=>m.bq.length - q) 0 rfl ⟨by omega,rfl⟩ (fun q G=>?_);obtain⟨g1,g2⟩:=G;rw[g2];rcases Nat.lt_or_ge q m.bq.length with g3|g3
   ·
    obtain⟨h,V⟩:=av g3;have ad:=uw V;have v:=ib f V;have kl:=kL h.to h.table;have U:f h=!bS m.bq m.tables.length h.to h.table:=by rw[<- hf]
    obtain⟨r,hr⟩:∃r,bS m.bq m.tables.length h.to h.table=r:=⟨_,rfl⟩;rw[hr]at kl;rw[hr]at U;rw[U]at v;rw[v]
    cases r with
    |true=>
     repeat'(first
|(with_reducible first|apply aa.seq|apply aa.block)
|((with_reducible apply aa.text);(try case hm=>exact rfl))
|((with_reducible apply aa.drawn);(case hm=>exact rfl))
|(with_reducible first|apply aa.skip|apply aa.ret|apply ai|apply ay|apply aO)
|((with_reducible apply aa.am);(case hc=>exact rfl))
|((with_reducible apply ab.ao);(case hp=>exact ae))
|(with_reducible apply ab.af)
|((with_reducible apply ab.u0);(case hx=>first
|(exact aj kl)
|exact ac))
|fail)
     exact⟨.inr rfl,rfl⟩
    |false=>
     repeat'(first
|(with_reducible first|apply aa.seq|apply aa.block)
|((with_reducible apply aa.text);(try case hm=>exact rfl))
|((with_reducible apply aa.drawn);(case hm=>exact rfl))
|(with_reducible first|apply aa.skip|apply ai|apply aG)
|((with_reducible apply aa.am);(case hc=>exact rfl))
|((with_reducible apply aa.ak);(case hc=>exact rfl))
|((with_reducible apply ab.ao);(case hp=>exact ae))
|(with_reducible apply ab.af)
|((with_reducible apply ab.u0);(case hx=>first
|(exact aj kl)
|exact ac))
|fail)
     exact⟨q+1,rfl,rfl,⟨by omega,rfl⟩,by omega⟩
   ·
    rw[gv _ g3]
    repeat'(first
|(with_reducible apply aa.seq)
|((with_reducible apply aa.text);(try case hm=>exact rfl))
|(with_reducible first|apply aa.exit|apply aa.ret|apply ai|apply aA|apply az)
|((with_reducible apply aa.ak);(case hc=>exact rfl))
|((with_reducible apply ab.aw);(case hp=>exact ae))
|(with_reducible apply ab.af)
|((with_reducible apply ab.u0);(case hx=>exact ac))
|fail)
    exact⟨.inr rfl,rfl⟩
 ·
  have e0:l5 m=false:=by unfold l5;rw[decide_eq_false Q];rfl
  rw[e0]
  repeat'(first
|(with_reducible apply aa.seq)
|((with_reducible apply aa.text);(try case hm=>exact rfl))
|(with_reducible first|apply aa.ret|apply ay)
|((with_reducible apply aa.am);(case hc=>exact rfl))
|((with_reducible apply ab.ao);(case hp=>exact ae))
|(with_reducible apply ab.af)
|((with_reducible apply ab.u0);(case hx=>exact ac))
|fail)
  exact⟨.inr rfl,rfl⟩
end Go.Proofs.YtgbfedgghjcdcaaGreatDoor
