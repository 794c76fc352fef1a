/- The reference's models,part by part,as contracts:. No condition. -/
import Derived.Test.YtgbfedgghjcdcaaGreatDoorNB
set_option linter.all false
namespace Go.Proofs.YtgbfedgghjcdcaaGreatDoor
open Go.RowKit
set_option maxRecDepth 100000
set_option maxHeartbeats 16000000
def cO(m:Md):di m=.agg [aF m.aq,.arr (cR m.tables),.arr (d_ m.dq),.arr (jp m.cons),.arr (jJ m.ops),.arr (iL m.aJ),.arr (jz m.bq)]:=rfl
def zt{m:Md}(h:cW m):Cl ap 144 [.t (di m)] [] (.ls 0) [.row false false 2 (fI (dA m.aq m.tables true))]:=by
 have v:=G0 (S:=m.aq) (L:=m.tables) true (by have:=h.aq;omega) (by have:=h.tables;omega) (fun t u=>by have:=h.aB t u;omega);rw[cO];refine Cl.aE rfl Tryz.func144 rfl rfl rfl ?_
 repeat'(first
|(with_reducible apply aa.seq)
|((with_reducible apply aa.text);(try case hm=>exact rfl))
|(with_reducible first|apply aa.ret|apply ab.af)
|((with_reducible apply ab.u0);(case hx=>first
|(exact dy v)
|exact ac))
|fail)
 exact⟨.inr rfl,rfl⟩
def G3(k:Int):Cl ap 175 [.t (.int .i64 k)] [] (.t (.bool (jM k))) []:=by
 refine Cl.aE rfl Tryz.func175 rfl rfl rfl ?_
 repeat'(first
|(with_reducible apply aa.seq)
|((with_reducible apply aa.text);(try case hm=>exact rfl))
|(with_reducible apply aa.ret)
|((with_reducible apply ab.aU)<;>intro u)
|((with_reducible apply ab.a_)<;>intro u)
|(with_reducible apply ab.af)
|((with_reducible apply ab.gf);(case hW=>exact rfl))
|((with_reducible apply ab.au);(case hW=>exact rfl);(case hx=>exact ac))
|((with_reducible apply ab.u0);(case hx=>exact ac))
|fail)
 all_goals(refine aS (.inr rfl) rfl ?_;unfold jM;first|(simp_all;done)|(simp_all;omega))
def E3{A B:List Int}{q:Nat}{x y:Int}(hx:A[q]?=some x)(hy:B[q]?=some y):iw (A.drop q) (B.drop q)=if x=y then iw (A.drop (q+1)) (B.drop (q+1))else decide (x <y):=by
 rw[cx hx,cx hy];rfl
def E0{A B:List Int}{q:Nat}(v:q<=A.length)(z:q<=B.length)(h:A.length<=q\/B.length<=q):iw (A.drop q) (B.drop q)=decide (A.length <B.length):=by
 rcases Nat.lt_or_ge q B.length with h1|h1
 ·have h2:A.length<=q:=by omega
  rw[gC h2];obtain⟨y,u⟩:=av h1;rw[cx u,decide_eq_true (show A.length <B.length by omega)];rfl
 ·rw[gC h1,decide_eq_false (show¬A.length <B.length by omega)];cases A.drop q <;>rfl
def GJ{A B:List Int}(V:A.length<=140737488351232)(Z:B.length<=140737488351232):Cl ap 149 [.t (aF A),.t (aF B)] [] (.t (.bool (iw A B))) []:=by
 have Q:=bC A;have U:=bC B;have G:iw A B=iw (A.drop 0) (B.drop 0):=rfl;rw[G];refine Cl.aE rfl Tryz.func149 rfl rfl rfl ?_
 repeat'(first
|(with_reducible first|apply aa.seq|apply aa.block)
|((with_reducible apply aa.text);(try case hm=>exact rfl))
|(with_reducible apply ab.af)
|((with_reducible apply ab.u0);(case hx=>exact ac))
|fail)
 apply aa.aM
 case ho=>exact rfl
 case hp=>exact rfl
 case hl=>exact rfl
 case hs=>exact slt
 refine aI.ind (fun q:Nat=>[(5,.t (.int .i64 (q:Int)))]) (fun q=>q<=A.length/\q<=B.length/\iw (A.drop 0) (B.drop 0)=iw (A.drop q) (B.drop q)) (fun q=>A.length - q) 0 rfl ⟨by omega,by omega,rfl⟩ (fun q v=>?_);obtain⟨h1,h2,h3⟩:=v;rw[h3];by_cases h4:q <A.length/\q <B.length
 ·
  obtain⟨u,I⟩:=h4;obtain⟨x,hx⟩:=av u;obtain⟨y,D⟩:=av I;have J:=bB hx;have O:=bB D;rw[E3 hx D];by_cases z:x=y
  ·
   rw[if_pos z]
   repeat'(first
|(with_reducible first|apply aa.seq|apply aa.block)
|((with_reducible apply aa.text);(try case hm=>exact rfl))
|((with_reducible apply aa.drawn);(case hm=>exact rfl))
|(with_reducible first|apply aa.skip|apply ai|apply aG)
|((with_reducible apply aa.am);(case hc=>exact rfl))
|((with_reducible apply aa.ak);(case hc=>exact rfl))
|((with_reducible apply ab.ao);(case hp=>exact ae))
|((with_reducible apply ab.cz);(case hp=>exact ae))
|((with_reducible apply ab.bh);(case hp=>exact ae))
|(with_reducible apply ab.af)
|((with_reducible apply ab.au);(case hW=>exact rfl);(case hx=>exact ac))
|((with_reducible apply ab.u0);(case hx=>exact ac))
|fail)
   exact⟨q+1,rfl,rfl,⟨by omega,by omega,rfl⟩,by omega⟩
  ·
   rw[if_neg z]
   repeat'(first
|(with_reducible first|apply aa.seq|apply aa.block)
|((with_reducible apply aa.text);(try case hm=>exact rfl))
|((with_reducible apply aa.drawn);(case hm=>exact rfl))
|(with_reducible first|apply aa.skip|apply aa.ret|apply ai|apply ay|apply aO)
|((with_reducible apply aa.am);(case hc=>exact rfl))
|((with_reducible apply ab.ao);(case hp=>exact ae))
|((with_reducible apply ab.aU)<;>intro v)
|((with_reducible apply ab.fa);(case hp=>exact ae))
|((with_reducible apply ab.bh);(case hp=>exact ae))
|(with_reducible apply ab.af)
|((with_reducible apply ab.au);(case hW=>exact rfl);(case hx=>exact ac))
|((with_reducible apply ab.u0);(case hx=>exact ac))
|fail)
   all_goals(refine aS (.inr rfl) rfl ?_;simp_all;try omega)
 ·
  rw[E0 h1 h2 (by omega)];rcases Nat.lt_or_ge q A.length with u|u
  ·
   repeat'(first
|(with_reducible apply aa.seq)
|((with_reducible apply aa.text);(try case hm=>exact rfl))
|(with_reducible first|apply aa.exit|apply aa.ret|apply ai|apply aA|apply az)
|((with_reducible apply aa.ak);(case hc=>exact rfl))
|((with_reducible apply ab.ao);(case hp=>exact ae))
|((with_reducible apply ab.aw);(case hp=>exact ae))
|((with_reducible apply ab.aV);(case hp=>exact ae))
|(with_reducible apply ab.af)
|((with_reducible apply ab.au);(case hW=>exact rfl);(case hx=>exact ac))
|((with_reducible apply ab.u0);(case hx=>exact ac))
|fail)
   all_goals(refine aS (.inr rfl) rfl ?_;simp;try omega)
  ·
   repeat'(first
|(with_reducible apply aa.seq)
|((with_reducible apply aa.text);(try case hm=>exact rfl))
|(with_reducible first|apply aa.exit|apply aa.ret|apply ai|apply aA|apply az)
|((with_reducible apply aa.ak);(case hc=>exact rfl))
|((with_reducible apply ab.aw);(case hp=>exact ae))
|((with_reducible apply ab.aU)<;>intro v)
|(with_reducible apply ab.af)
|((with_reducible apply ab.gf);(case hW=>exact rfl))
|((with_reducible apply ab.u0);(case hx=>exact ac))
|fail)
   all_goals(refine aS (.inr rfl) rfl ?_;simp;try omega)
def xy{S:List Int}{c:Cn}{t:Tb}:jx S c t=true↔t.kind=0/\t.aB.length=2/\t.aB.getD 0 0=t.aB.getD 1 0/\t.first=c.first/\S.getD (t.aB.getD 0 0).toNat 0=c.size:=by
 unfold jx;simp only[Bool.and_eq_true,decide_eq_true_eq]
def EV{l:List Int}(h:l.length=2):∃a b,l=[a,b]:=by
 match l,h with
 |[a,b],_=>exact⟨a,b,rfl⟩
def GC{m:Md}{c:Cn}(hm:cW m)(hv:ce m.aq m.tables=true)(hc:c.row.dm.length<=140737488351232):Cl ap 147 [.t (di m),.t (.agg (oQ c))] [] (.t (.bool (k6 m c))) []:=by
 obtain⟨U,O,⟨T,J⟩,y,sz⟩:=c;have hT:=sC T;have hc:T.length<=140737488351232:=hc;have aY:=bC m.aq;have aQ:=gV m.tables;have an:=k_ hv;rw[cO];have e1:oQ ⟨U,O,⟨T,J⟩,y,sz⟩=[.int .i64 U,.int .i64 O,.arr (f_ T),.int .i64 J,.int .i64 y,.int .i64 sz]:=rfl;rw[e1];refine Cl.aE rfl Tryz.func147 rfl rfl rfl ?_;by_cases Z:T.length=0/\J=0
 ·
  obtain⟨ad,rfl⟩:=Z;obtain⟨C,Q⟩:∃C:Cn,(⟨U,O,⟨T,0⟩,y,sz⟩:Cn)=C:=⟨_,rfl⟩
  have hg:k6 m C=(m.tables.drop 0).any (jx m.aq C):=by
   rw[<- Q];unfold k6;simp[ad]
  have ag:C.first=y:=by rw[<- Q]
  have al:C.size=sz:=by rw[<- Q]
  rw[Q,hg]
  repeat'(first
|(with_reducible first|apply aa.seq|apply aa.block)
|((with_reducible apply aa.text);(try case hm=>exact rfl))
|(with_reducible first|apply aa.skip|apply ai)
|((with_reducible apply aa.ak);(case hc=>exact rfl))
|((with_reducible apply ab.aw);(case hp=>exact ae))
|((with_reducible apply ab.dF);(case hp=>exact ae))
|(with_reducible apply ab.af)
|((with_reducible apply ab.au);(case hW=>exact rfl);(case hx=>exact ac))
|((with_reducible apply ab.u0);(case hx=>exact ac))
|fail)
  apply aa.aM
  case ho=>exact rfl
  case hp=>exact rfl
  case hl=>exact rfl
  case hs=>exact slt
  refine aI.ind (fun q:Nat=>[(5,.t (.int .i64 (q:Int)))]) (fun q=>q<=m.tables.length/\(m.tables.drop 0).any (jx m.aq C)=(m.tables.drop q).any (jx m.aq C)) (fun q=>m.tables.length - q) 0 rfl ⟨by omega,rfl⟩ (fun q G=>?_);obtain⟨h1,h2⟩:=G;rw[h2];rcases Nat.lt_or_ge q m.tables.length with h3|h3
  ·
   obtain⟨t,ht⟩:=av h3;have a6:=fZ ht;have z:=qf (jx m.aq C) ht;obtain⟨c1,c2,V⟩:=nw hv ht;have aN:=bC t.aB;by_cases hl:t.aB.length=2
   ·
    obtain⟨a,b,u⟩:=EV hl;rw[u]at V;simp only[List.all_cons,Bool.and_eq_true]at V;have D:=V.1;simp only[c_,Bool.and_eq_true,decide_eq_true_eq]at D;obtain⟨g3,g4⟩:=D;obtain⟨s,I⟩:=av (xs:=m.aq) (k:=a.toNat) (by omega);have a1:=bB I
    have hP:jx m.aq C t=true↔t.kind=0/\a=b/\t.first=y/\s=sz:=by
     have ea:t.aB.getD 0 0=a:=by rw[u];rfl
     have eb:t.aB.getD 1 0=b:=by rw[u];rfl
     rw[xy,ea,eb,ag,al,dt I];simp[hl]
    have aJ:(aW t.aB)[0]?=some [.int .i64 a]:=bB (by rw[u];rfl);have aL:(aW t.aB)[1]?=some [.int .i64 b]:=bB (by rw[u];rfl);by_cases v:t.kind=0/\a=b/\t.first=y/\s=sz
    ·
     rw[z,hP.2 v,Bool.true_or];obtain⟨k1,k2,k3,k4⟩:=v
     repeat'(first
|(with_reducible first|apply aa.seq|apply aa.block)
|((with_reducible apply aa.text);(try case hm=>exact rfl))
|((with_reducible apply aa.drawn);(case hm=>exact rfl))
|(with_reducible first|apply aa.skip|apply aa.ret|apply ai|apply ay|apply aO)
|((with_reducible apply aa.am);(case hc=>exact rfl))
|((with_reducible apply ab.ao);(case hp=>exact ae))
|((with_reducible apply ab.bh);(case hp=>exact ae))
|(with_reducible apply ab.af)
|((with_reducible apply ab.au);(case hW=>exact rfl);(case hx=>exact ac))
|((with_reducible apply ab.u0);(case hx=>exact ac))
|fail)
     exact⟨.inr rfl,rfl⟩
    ·
     have hf:jx m.aq C t=false:=by rw[<- Bool.not_eq_true,hP];exact v
     rw[z,hf,Bool.false_or]
     repeat'(first
|(with_reducible first|apply aa.seq|apply aa.block)
|((with_reducible apply aa.text);(try case hm=>exact rfl))
|((with_reducible apply aa.drawn);(case hm=>exact rfl))
|(with_reducible first|apply aa.skip|apply ai|apply aG)
|((with_reducible apply aa.am);(case hc=>exact rfl))
|((with_reducible apply aa.ak);(case hc=>exact rfl))
|((with_reducible apply ab.ao);(case hp=>exact ae))
|((with_reducible apply ab.aU)<;>intro G)
|((with_reducible apply ab.bh);(case hp=>exact ae))
|((with_reducible apply ab.aV);(case hp=>exact ae))
|((with_reducible apply ab.a_)<;>intro G)
|(with_reducible apply ab.af)
|((with_reducible apply ab.gf);(case hW=>exact rfl))
|((with_reducible apply ab.au);(case hW=>exact rfl);(case hx=>exact ac))
|((with_reducible apply ab.u0);(case hx=>exact ac))
|fail)
     all_goals first
      |exact⟨q+1,rfl,rfl,⟨by omega,rfl⟩,by omega⟩
      |(exfalso;apply v;refine⟨?_,?_,?_,?_⟩<;>first|assumption|omega)
   ·
    have hf:jx m.aq C t=false:=by rw[<- Bool.not_eq_true,xy];exact fun h=>hl h.2.1
    rw[z,hf,Bool.false_or]
    repeat'(first
|(with_reducible first|apply aa.seq|apply aa.block)
|((with_reducible apply aa.text);(try case hm=>exact rfl))
|((with_reducible apply aa.drawn);(case hm=>exact rfl))
|(with_reducible first|apply aa.skip|apply ai|apply aG)
|((with_reducible apply aa.am);(case hc=>exact rfl))
|((with_reducible apply aa.ak);(case hc=>exact rfl))
|((with_reducible apply ab.ao);(case hp=>exact ae))
|((with_reducible apply ab.aU)<;>intro G)
|((with_reducible apply ab.aV);(case hp=>exact ae))
|(with_reducible apply ab.af)
|((with_reducible apply ab.gf);(case hW=>exact rfl))
|((with_reducible apply ab.au);(case hW=>exact rfl);(case hx=>exact ac))
|((with_reducible apply ab.u0);(case hx=>exact ac))
|fail)
    all_goals exact⟨q+1,rfl,rfl,⟨by omega,rfl⟩,by omega⟩
  ·
   rw[qe _ h3]
   repeat'(first
|(with_reducible apply aa.seq)
|((with_reducible apply aa.text);(try case hm=>exact rfl))
|(with_reducible first|apply aa.exit|apply aa.ret|apply ai|apply aA|apply az)
|((with_reducible apply aa.ak);(case hc=>exact rfl))
|((with_reducible apply ab.aw);(case hp=>exact ae))
|(with_reducible apply ab.af)
|((with_reducible apply ab.u0);(case hx=>exact ac))
|fail)
   exact⟨.inr rfl,rfl⟩
 ·
  have hg:k6 m ⟨U,O,⟨T,J⟩,y,sz⟩=false:=by
   rw[<- Bool.not_eq_true];unfold k6;simp only[Bool.and_eq_true,decide_eq_true_eq];exact fun h=>Z h.1
  rw[hg]
  repeat'(first
|(with_reducible apply aa.seq)
|((with_reducible apply aa.text);(try case hm=>exact rfl))
|(with_reducible first|apply aa.ret|apply ay)
|((with_reducible apply aa.am);(case hc=>exact rfl))
|((with_reducible apply ab.aU)<;>intro G)
|((with_reducible apply ab.dQ);(case hp=>exact ae))
|(with_reducible apply ab.af)
|((with_reducible apply ab.gf);(case hW=>exact rfl))
|((with_reducible apply ab.au);(case hW=>exact rfl);(case hx=>exact ac))
|((with_reducible apply ab.u0);(case hx=>exact ac))
|fail)
  all_goals first
   |exact⟨.inr rfl,rfl⟩
   |(exfalso;apply Z;constructor <;>omega)
def ET(l:List bH)(n:Nat)(a b:Int):bS l (n+1) a b=(decide (a=b)||(l.drop 0).any fun h=>decide (h.table=a)&&bS l n h.to b):=rfl
def GI{m:Md}(hm:cW m):∀(n:Nat) (N a b:Int),N=n->n<=1000->Cl ap 151 [.t (di m),.t (.int .i64 a),.t (.int .i64 b),.t (.int .i64 N)] [] (.t (.bool (bS m.bq n a b))) []:=by
 intro n;have V:=xB m.bq;have Z:=hm.bq;rw[cO]
 induction n with
 |zero=>
  intro N a b Q hn;have O:bS m.bq 0 a b=decide (a=b):=rfl;rw[O];refine Cl.aE rfl Tryz.func151 rfl rfl rfl ?_;by_cases y:a=b
  ·
   rw[decide_eq_true y]
   repeat'(first
|(with_reducible apply aa.seq)
|((with_reducible apply aa.text);(try case hm=>exact rfl))
|(with_reducible first|apply aa.ret|apply ay)
|((with_reducible apply aa.am);(case hc=>exact rfl))
|((with_reducible apply ab.ao);(case hp=>exact ae))
|(with_reducible apply ab.af)
|((with_reducible apply ab.u0);(case hx=>exact ac))
|fail)
   exact⟨.inr rfl,rfl⟩
  ·
   rw[decide_eq_false y]
   repeat'(first
|(with_reducible first|apply aa.seq|apply aa.block)
|((with_reducible apply aa.text);(try case hm=>exact rfl))
|(with_reducible first|apply aa.skip|apply ai)
|((with_reducible apply aa.ak);(case hc=>exact rfl))
|((with_reducible apply ab.aw);(case hp=>exact ae))
|(with_reducible apply ab.af)
|((with_reducible apply ab.u0);(case hx=>exact ac))
|fail)
   apply aa.aM
   case ho=>exact rfl
   case hp=>exact rfl
   case hl=>exact rfl
   case hs=>exact slt
   refine aI.step ?_
   repeat'(first
|(with_reducible apply aa.seq)
|((with_reducible apply aa.text);(try case hm=>exact rfl))
|(with_reducible first|apply aa.exit|apply aa.ret|apply ai|apply aA|apply az)
|((with_reducible apply aa.ak);(case hc=>exact rfl))
|((with_reducible apply ab.aU)<;>intro J)
|((with_reducible apply ab.aV);(case hp=>exact ae))
|(with_reducible apply ab.af)
|((with_reducible apply ab.gf);(case hW=>exact rfl))
|((with_reducible apply ab.au);(case hW=>exact rfl);(case hx=>exact ac))
|((with_reducible apply ab.u0);(case hx=>exact ac))
|fail)
   all_goals exact⟨.inr rfl,rfl⟩
 |succ n ih=>
  intro N a b Q hn;rw[ET];refine Cl.aE rfl Tryz.func151 rfl rfl rfl ?_;by_cases y:a=b
  ·
   rw[decide_eq_true y,Bool.true_or]
   repeat'(first
|(with_reducible apply aa.seq)
|((with_reducible apply aa.text);(try case hm=>exact rfl))
|(with_reducible first|apply aa.ret|apply ay)
|((with_reducible apply aa.am);(case hc=>exact rfl))
|((with_reducible apply ab.ao);(case hp=>exact ae))
|(with_reducible apply ab.af)
|((with_reducible apply ab.u0);(case hx=>exact ac))
|fail)
   exact⟨.inr rfl,rfl⟩
  ·
   rw[decide_eq_false y,Bool.false_or];obtain⟨f,G⟩:∃f:bH->Bool,(fun h=>decide (h.table=a)&&bS m.bq n h.to b)=f:=⟨_,rfl⟩;rw[G]
   repeat'(first
|(with_reducible first|apply aa.seq|apply aa.block)
|((with_reducible apply aa.text);(try case hm=>exact rfl))
|(with_reducible first|apply aa.skip|apply ai)
|((with_reducible apply aa.ak);(case hc=>exact rfl))
|((with_reducible apply ab.aw);(case hp=>exact ae))
|(with_reducible apply ab.af)
|((with_reducible apply ab.u0);(case hx=>exact ac))
|fail)
   apply aa.aM
   case ho=>exact rfl
   case hp=>exact rfl
   case hl=>exact rfl
   case hs=>exact slt
   refine aI.ind (fun q:Nat=>[(9,.t (.int .i64 (q:Int)))]) (fun q=>q<=m.bq.length/\(m.bq.drop 0).any f=(m.bq.drop q).any f) (fun q=>m.bq.length - q) 0 rfl ⟨by omega,rfl⟩ (fun q J=>?_);obtain⟨h1,h2⟩:=J;rw[h2];rcases Nat.lt_or_ge q m.bq.length with h3|h3
   ·
    obtain⟨h,I⟩:=av h3;have U:=uw I;have u:=qf f I;have D:=ih (N - 1) h.to b (by omega) (by omega);have v:f h=(decide (h.table=a)&&bS m.bq n h.to b):=by rw[<- G]
    obtain⟨r,hr⟩:∃r,bS m.bq n h.to b=r:=⟨_,rfl⟩;rw[hr]at D v;by_cases z:h.table=a
    ·
     rw[decide_eq_true z,Bool.true_and]at v;rw[v]at u
     cases r with
     |true=>
      rw[u,Bool.true_or]
      repeat'(first
|(with_reducible first|apply aa.seq|apply aa.block)
|((with_reducible apply aa.text);(try case hm=>exact rfl))
|((with_reducible apply aa.drawn);(case hm=>exact rfl))
|(with_reducible first|apply aa.skip|apply aa.ret|apply ai|apply ay|apply aO)
|((with_reducible apply aa.am);(case hc=>exact rfl))
|((with_reducible apply ab.ao);(case hp=>exact ae))
|((with_reducible apply ab.bh);(case hp=>exact ae))
|(with_reducible apply ab.af)
|((with_reducible apply ab.au);(case hW=>exact rfl);(case hx=>first
|(exact aj D)
|exact ac))
|((with_reducible apply ab.u0);(case hx=>exact ac))
|fail)
      exact⟨.inr rfl,rfl⟩
     |false=>
      rw[Bool.false_or]at u;rw[u]
      repeat'(first
|(with_reducible first|apply aa.seq|apply aa.block)
|((with_reducible apply aa.text);(try case hm=>exact rfl))
|((with_reducible apply aa.drawn);(case hm=>exact rfl))
|(with_reducible first|apply aa.skip|apply ai|apply aG)
|((with_reducible apply aa.am);(case hc=>exact rfl))
|((with_reducible apply aa.ak);(case hc=>exact rfl))
|((with_reducible apply ab.ao);(case hp=>exact ae))
|((with_reducible apply ab.bh);(case hp=>exact ae))
|(with_reducible apply ab.af)
|((with_reducible apply ab.au);(case hW=>exact rfl);(case hx=>first
|(exact aj D)
|exact ac))
|((with_reducible apply ab.u0);(case hx=>exact ac))
|fail)
      exact⟨q+1,rfl,rfl,⟨by omega,rfl⟩,by omega⟩
    ·
     rw[decide_eq_false z,Bool.false_and]at v;rw[v,Bool.false_or]at u;rw[u]
     repeat'(first
|(with_reducible first|apply aa.seq|apply aa.block)
|((with_reducible apply aa.text);(try case hm=>exact rfl))
|((with_reducible apply aa.drawn);(case hm=>exact rfl))
|(with_reducible first|apply aa.skip|apply ai|apply aG)
|((with_reducible apply aa.am);(case hc=>exact rfl))
|((with_reducible apply aa.ak);(case hc=>exact rfl))
|((with_reducible apply ab.ao);(case hp=>exact ae))
|((with_reducible apply ab.aw);(case hp=>exact ae))
|((with_reducible apply ab.bh);(case hp=>exact ae))
|(with_reducible apply ab.af)
|((with_reducible apply ab.gf);(case hW=>exact rfl))
|((with_reducible apply ab.au);(case hW=>exact rfl);(case hx=>exact ac))
|((with_reducible apply ab.u0);(case hx=>exact ac))
|fail)
     exact⟨q+1,rfl,rfl,⟨by omega,rfl⟩,by omega⟩
   ·
    rw[qe _ h3]
    repeat'(first
|(with_reducible apply aa.seq)
|((with_reducible apply aa.text);(try case hm=>exact rfl))
|(with_reducible first|apply aa.exit|apply aa.ret|apply ai|apply aA|apply az)
|((with_reducible apply aa.ak);(case hc=>exact rfl))
|((with_reducible apply ab.aw);(case hp=>exact ae))
|(with_reducible apply ab.af)
|((with_reducible apply ab.gf);(case hW=>exact rfl))
|((with_reducible apply ab.u0);(case hx=>exact ac))
|fail)
    exact⟨.inr rfl,rfl⟩
end Go.Proofs.YtgbfedgghjcdcaaGreatDoor
