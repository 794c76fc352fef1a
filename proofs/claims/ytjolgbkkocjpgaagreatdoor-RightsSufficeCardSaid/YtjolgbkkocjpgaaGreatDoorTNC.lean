/- The reference's models,part by part,as contracts:. No condition. -/
import Derived.Test.YtjolgbkkocjpgaaGreatDoorTN
set_option linter.all false
namespace Go.Proofs.YtjolgbkkocjpgaaGreatDoor
open Go.RowKit
set_option maxRecDepth 100000
set_option maxHeartbeats 16000000
def aS(m:Md):bk m=.agg [ay m.ai,.arr (bq m.tables),.arr (bX m.bx),.arr (dc m.cons),.arr (dk m.ops),.arr (cK m.au),.arr (cu m.aG)]:=rfl
def FO{m:Md}(h:bo m):Cl ah 125 [.t (bk m)] [] (.ls 0) [.row false false 2 (bR (bH m.ai m.tables true))]:=by
 have v:=Ps (S:=m.ai) (L:=m.tables) true (by have:=h.ai;omega) (by have:=h.tables;omega) (fun t u=>by have:=h.av t u;omega);rw[aS];refine Cl.aq rfl Tryz.func125 rfl rfl rfl ?_;exact ae
def Pv(k:Int):Cl ah 165 [.t (.int .i64 k)] [] (.t (.bool (oZ k))) []:=by
 refine Cl.aq rfl Tryz.func165 rfl rfl rfl ?_
 repeat'(first
|((with_reducible apply aa.aX)<;>intro u)
|((with_reducible apply aa.bi)<;>intro u)
|(refine ar ?_)
|((with_reducible apply aa.aB);(case hW=>exact rfl);(case hx=>exact af))
|((with_reducible apply aa.u0);(case hx=>exact af))
|fail)
 all_goals(refine a_ (.inr rfl) rfl ?_;unfold oZ;first|(simp_all;done)|(simp_all;omega))
def Mt{A B:List Int}{q:Nat}{x y:Int}(hx:A[q]?=some x)(hy:B[q]?=some y):iN (A.drop q) (B.drop q)=if x=y then iN (A.drop (q+1)) (B.drop (q+1))else decide (x <y):=by
 rw[bK hx,bK hy];rfl
def Ms{A B:List Int}{q:Nat}(v:q<=A.length)(z:q<=B.length)(h:A.length<=q\/B.length<=q):iN (A.drop q) (B.drop q)=decide (A.length <B.length):=by
 rcases Nat.lt_or_ge q B.length with h1|h1
 ·have h2:A.length<=q:=by omega
  rw[ez h2];obtain⟨y,u⟩:=aj h1;rw[bK u,decide_eq_true (show A.length <B.length by omega)];rfl
 ·rw[ez h1,decide_eq_false (show¬A.length <B.length by omega)];cases A.drop q <;>rfl
def O1{A B:List Int}(hA:A.length<=140737488351232)(hB:B.length<=140737488351232):Cl ah 130 [.t (ay A),.t (ay B)] [] (.t (.bool (iN A B))) []:=by
 have V:=aO A;have Z:=aO B;have G:iN A B=iN (A.drop 0) (B.drop 0):=rfl;rw[G];refine Cl.aq rfl Tryz.func130 rfl rfl rfl ?_;refine ak ?_;refine ax.ind (fun q:Nat=>[(5,.t (.int .i64 (q:Int)))]) (fun q=>q<=A.length/\q<=B.length/\iN (A.drop 0) (B.drop 0)=iN (A.drop q) (B.drop q)) (fun q=>A.length - q) 0 rfl ⟨by omega,by omega,rfl⟩ (fun q z=>?_);obtain⟨h1,h2,h3⟩:=z;rw[h3];by_cases h4:q <A.length/\q <B.length
 ·
  obtain⟨u,I⟩:=h4;obtain⟨x,hx⟩:=aj u;obtain⟨y,D⟩:=aj I;have J:=aW hx;have U:=aW D;rw[Mt hx D];by_cases v:x=y
  ·
   rw[if_pos v];refine ak ?_;exact⟨q+1,rfl,rfl,⟨by omega,by omega,rfl⟩,by omega⟩
  ·
   rw[if_neg v]
   repeat'(first
|(refine aY ?_)
|((with_reducible apply aa.aX)<;>intro z)
|(refine ar ?_)
|((with_reducible apply aa.aB);(case hW=>exact rfl);(case hx=>exact af))
|((with_reducible apply aa.u0);(case hx=>exact af))
|fail)
   all_goals(refine a_ (.inr rfl) rfl ?_;simp_all;try omega)
 ·
  rw[Ms h1 h2 (by omega)];rcases Nat.lt_or_ge q A.length with u|u
  ·
   exact ae
  ·
   exact ae
def vV{S:List Int}{c:Cn}{t:Tb}:ij S c t=true↔t.kind=0/\t.av.length=2/\t.av.getD 0 0=t.av.getD 1 0/\t.first=c.first/\S.getD (t.av.getD 0 0).toNat 0=c.size:=by
 unfold ij;simp only[Bool.and_eq_true,decide_eq_true_eq]
def D9{l:List Int}(h:l.length=2):∃a b,l=[a,b]:=by
 match l,h with
 |[a,b],_=>exact⟨a,b,rfl⟩
def OQ{m:Md}{c:Cn}(hm:bo m)(hv:bQ m.ai m.tables=true)(hc:c.row.a8.length<=140737488351232):Cl ah 128 [.t (bk m),.t (.agg (lx c))] [] (.t (.bool (jH m c))) []:=by
 obtain⟨Z,J,⟨T,I⟩,y,sz⟩:=c;have hT:=mf T;have hc:T.length<=140737488351232:=hc;have aG:=aO m.ai;have aD:=fJ m.tables;have al:=jk hv;rw[aS];have e1:lx ⟨Z,J,⟨T,I⟩,y,sz⟩=[.int .i64 Z,.int .i64 J,.arr (eg T),.int .i64 I,.int .i64 y,.int .i64 sz]:=rfl;rw[e1];refine Cl.aq rfl Tryz.func128 rfl rfl rfl ?_;by_cases h0:T.length=0/\I=0
 ·
  obtain⟨ab,rfl⟩:=h0;obtain⟨C,U⟩:∃C:Cn,(⟨Z,J,⟨T,0⟩,y,sz⟩:Cn)=C:=⟨_,rfl⟩
  have hg:jH m C=(m.tables.drop 0).any (ij m.ai C):=by
   rw[<- U];unfold jH;simp[ab]
  have ad:C.first=y:=by rw[<- U]
  have ag:C.size=sz:=by rw[<- U]
  rw[U,hg];refine ak ?_;refine ax.ind (fun q:Nat=>[(5,.t (.int .i64 (q:Int)))]) (fun q=>q<=m.tables.length/\(m.tables.drop 0).any (ij m.ai C)=(m.tables.drop q).any (ij m.ai C)) (fun q=>m.tables.length - q) 0 rfl ⟨by omega,rfl⟩ (fun q V=>?_);obtain⟨h1,h2⟩:=V;rw[h2];rcases Nat.lt_or_ge q m.tables.length with h3|h3
  ·
   obtain⟨t,ht⟩:=aj h3;have aR:=fo ht;have z:=oe (ij m.ai C) ht;obtain⟨c1,c2,c3⟩:=jL hv ht;have au:=aO t.av;by_cases hl:t.av.length=2
   ·
    obtain⟨a,b,u⟩:=D9 hl;rw[u]at c3;simp only[List.all_cons,Bool.and_eq_true]at c3;have D:=c3.1;simp only[cr,Bool.and_eq_true,decide_eq_true_eq]at D;obtain⟨g3,g4⟩:=D;obtain⟨s,G⟩:=aj (xs:=m.ai) (k:=a.toNat) (by omega);have aJ:=aW G
    have hP:ij m.ai C t=true↔t.kind=0/\a=b/\t.first=y/\s=sz:=by
     have ea:t.av.getD 0 0=a:=by rw[u];rfl
     have eb:t.av.getD 1 0=b:=by rw[u];rfl
     rw[vV,ea,eb,ad,ag,fb G];simp[hl]
    have an:(aE t.av)[0]?=some [.int .i64 a]:=aW (by rw[u];rfl);have ao:(aE t.av)[1]?=some [.int .i64 b]:=aW (by rw[u];rfl);by_cases v:t.kind=0/\a=b/\t.first=y/\s=sz
    ·
     rw[z,hP.2 v,Bool.true_or];obtain⟨k1,k2,k3,k4⟩:=v;exact ae
    ·
     have hf:ij m.ai C t=false:=by rw[<- Bool.not_eq_true,hP];exact v
     rw[z,hf,Bool.false_or]
     repeat'(first
|(refine aY ?_)
|((with_reducible apply aa.aX)<;>intro V)
|((with_reducible apply aa.bi)<;>intro V)
|(refine ar ?_)
|((with_reducible apply aa.aB);(case hW=>exact rfl);(case hx=>exact af))
|((with_reducible apply aa.u0);(case hx=>exact af))
|fail)
     all_goals first
      |exact⟨q+1,rfl,rfl,⟨by omega,rfl⟩,by omega⟩
      |(exfalso;apply v;refine⟨?_,?_,?_,?_⟩<;>first|assumption|omega)
   ·
    have hf:ij m.ai C t=false:=by rw[<- Bool.not_eq_true,vV];exact fun h=>hl h.2.1
    rw[z,hf,Bool.false_or];exact ae
  ·
   rw[od _ h3];exact ae
 ·
  have hg:jH m ⟨Z,J,⟨T,I⟩,y,sz⟩=false:=by
   rw[<- Bool.not_eq_true];unfold jH;simp only[Bool.and_eq_true,decide_eq_true_eq];exact fun h=>h0 h.1
  rw[hg]
  repeat'(first
|((with_reducible apply aa.l5);(case hp=>exact aA))
|((with_reducible apply aa.aX)<;>intro V)
|(refine ar ?_)
|((with_reducible apply aa.aB);(case hW=>exact rfl);(case hx=>exact af))
|((with_reducible apply aa.u0);(case hx=>exact af))
|fail)
  all_goals first
   |exact⟨.inr rfl,rfl⟩
   |(exfalso;apply h0;constructor <;>omega)
def Mk(l:List Hde)(n:Nat)(a b:Int):ci l (n+1) a b=(decide (a=b)||(l.drop 0).any fun h=>decide (h.table=a)&&ci l n h.to b):=rfl
def O0{m:Md}(hm:bo m):∀(n:Nat) (N a b:Int),N=n->n<=1000->Cl ah 132 [.t (bk m),.t (.int .i64 a),.t (.int .i64 b),.t (.int .i64 N)] [] (.t (.bool (ci m.aG n a b))) []:=by
 intro n;have V:=rA m.aG;have Z:=hm.aG;rw[aS]
 induction n with
 |zero=>
  intro N a b J hn;have I:ci m.aG 0 a b=decide (a=b):=rfl;rw[I];refine Cl.aq rfl Tryz.func132 rfl rfl rfl ?_;by_cases y:a=b
  ·
   rw[decide_eq_true y];exact ae
  ·
   rw[decide_eq_false y];refine ak ?_;refine ax.step ?_;exact ae
 |succ n ih=>
  intro N a b J hn;rw[Mk];refine Cl.aq rfl Tryz.func132 rfl rfl rfl ?_;by_cases y:a=b
  ·
   rw[decide_eq_true y,Bool.true_or];exact ae
  ·
   rw[decide_eq_false y,Bool.false_or];obtain⟨f,D⟩:∃f:Hde->Bool,(fun h=>decide (h.table=a)&&ci m.aG n h.to b)=f:=⟨_,rfl⟩;rw[D];refine ak ?_;refine ax.ind (fun q:Nat=>[(9,.t (.int .i64 (q:Int)))]) (fun q=>q<=m.aG.length/\(m.aG.drop 0).any f=(m.aG.drop q).any f) (fun q=>m.aG.length - q) 0 rfl ⟨by omega,rfl⟩ (fun q hq=>?_);obtain⟨h1,h2⟩:=hq;rw[h2];rcases Nat.lt_or_ge q m.aG.length with h3|h3
   ·
    obtain⟨h,G⟩:=aj h3;have U:=rz G;have u:=oe f G;have kl:=ih (N - 1) h.to b (by omega) (by omega);have v:f h=(decide (h.table=a)&&ci m.aG n h.to b):=by rw[<- D]
    obtain⟨r,hr⟩:∃r,ci m.aG n h.to b=r:=⟨_,rfl⟩;rw[hr]at kl v;by_cases z:h.table=a
    ·
     rw[decide_eq_true z,Bool.true_and]at v;rw[v]at u
     cases r with
     |true=>
      rw[u,Bool.true_or];exact ae
     |false=>
      rw[Bool.false_or]at u;rw[u];exact ae
    ·
     rw[decide_eq_false z,Bool.false_and]at v;rw[v,Bool.false_or]at u;rw[u];exact ae
   ·
    rw[od _ h3];exact ae
def DE{i:Int}{n:Nat}:rC i n=true↔0<=i/\i <n:=by
 unfold rC;simp only[Bool.and_eq_true,decide_eq_true_eq]
def DC{m:Md}{h:Hde}(hn:¬(0<=h.table/\h.table <m.tables.length/\0<=h.to/\h.to <m.tables.length/\h.table≠h.to)):fe m h=false:=by
 rw[<- Bool.not_eq_true];intro u;unfold fe at u;simp only[Bool.and_eq_true,DE,Bool.not_eq_true',decide_eq_false_iff_not]at u;exact hn ⟨u.1.1.1,u.1.1.2,u.1.2.1.1,u.1.2.1.2,u.1.2.2⟩
def DD{m:Md}{h:Hde}{t u:Tb}(v:0<=h.table/\h.table <m.tables.length/\0<=h.to/\h.to <m.tables.length/\h.table≠h.to)(ht:m.tables[h.table.toNat]?=some t)(z:m.tables[h.to.toNat]?=some u):fe m h=true↔t.kind=0/\u.kind=0/\(0<=h.fa/\h.fa <t.av.length)/\u.av.length=1/\u.av.getD 0 0=t.av.getD h.fa.toNat 0:=by
 unfold fe;rw[List.getD_eq_getElem?_getD,List.getD_eq_getElem?_getD,ht,z];simp only[Bool.and_eq_true,DE,Bool.not_eq_true',decide_eq_false_iff_not,decide_eq_true_eq,Option.getD_some];constructor
 ·rintro⟨_,⟨h1,h2⟩,h3,h4,y⟩;exact⟨h1,h2,h3,h4,y⟩
 ·rintro⟨h1,h2,h3,h4,y⟩;exact⟨⟨⟨v.1,v.2.1⟩,⟨v.2.2.1,v.2.2.2.1⟩,v.2.2.2.2⟩,⟨h1,h2⟩,h3,h4,y⟩
def D8{l:List Int}(h:l.length=1):∃a,l=[a]:=by
 match l,h with
 |[a],_=>exact⟨a,rfl⟩
def OR{m:Md}(hm:bo m)(hv:bQ m.ai m.tables=true):Cl ah 89 [.t (bk m)] [] (.t (.bool (gC m))) []:=by
 have al:=rA m.aG;have an:=fJ m.tables;have ag:=jk hv;have kL:=fun a b=>O0 hm m.tables.length (m.tables.length:Int) a b rfl (by omega);rw[aS]at kL⊢;refine Cl.aq rfl Tryz.func89 rfl rfl rfl ?_;by_cases V:m.aG.length<=12
 ·
  have e0:gC m=((m.aG.drop 0).all (fe m)&&(m.aG.drop 0).all fun h=>!ci m.aG m.tables.length h.to h.table):=by unfold gC;simp[V]
  obtain⟨Y,hY⟩:∃Y,((m.aG.drop 0).all fun h=>!ci m.aG m.tables.length h.to h.table)=Y:=⟨_,rfl⟩;rw[e0,hY];refine ak ?_;refine ax.ind (fun q:Nat=>[(3,.t (.int .i64 (q:Int)))]) (fun q=>q<=m.aG.length/\(m.aG.drop 0).all (fe m)=(m.aG.drop q).all (fe m)) (fun q=>m.aG.length - q) 0 rfl ⟨by omega,rfl⟩ (fun q I=>?_);obtain⟨h1,h2⟩:=I;rw[h2];rcases Nat.lt_or_ge q m.aG.length with h3|h3
  ·
   obtain⟨h,hh⟩:=aj h3;have ab:=rz hh;have v:=i_ (fe m) hh;by_cases hA:0<=h.table/\h.table <m.tables.length/\0<=h.to/\h.to <m.tables.length/\h.table≠h.to
   ·
    obtain⟨t,ht⟩:=aj (xs:=m.tables) (k:=h.table.toNat) (by omega);obtain⟨u,hu⟩:=aj (xs:=m.tables) (k:=h.to.toNat) (by omega);have aD:=fo ht;have aJ:=fo hu;have ao:=aO t.av;have au:=aO u.av;have D:=DD hA ht hu;obtain⟨a1,a2,a3,a4,a5⟩:=hA;by_cases hB:(0<=h.fa/\h.fa <t.av.length)/\u.av.length=1
    ·
     obtain⟨⟨b1,b2⟩,b3⟩:=hB;obtain⟨y,hy⟩:=D8 b3;obtain⟨z,hz⟩:=aj (xs:=t.av) (k:=h.fa.toNat) (by omega);have aR:(aE u.av)[0]?=some [.int .i64 y]:=aW (by rw[hy];rfl);have aV:=aW hz;have ey:u.av.getD 0 0=y:=by rw[hy];rfl
     rw[ey,fb hz]at D;by_cases U:t.kind=0/\u.kind=0/\y=z
     ·
      have ad:fe m h=true:=D.2 ⟨U.1,U.2.1,⟨b1,b2⟩,b3,U.2.2⟩;rw[ad,Bool.true_and]at v;obtain⟨p1,p2,p3⟩:=U;rw[v];exact ae
     ·
      have G:fe m h=false:=by rw[<- Bool.not_eq_true,D];exact fun J=>U ⟨J.1,J.2.1,J.2.2.2.2⟩
      rw[v,G,Bool.false_and,Bool.false_and]
      repeat'(first
|(refine aY ?_)
|((with_reducible apply aa.gm)<;>intro I)
|((with_reducible apply aa.fj)<;>intro I)
|(refine ar ?_)
|((with_reducible apply az.u);(case hfl=>kernel_rfl);(case hx=>exact af))
|((with_reducible apply aa.aB);(case hW=>exact rfl);(case hx=>exact af))
|((with_reducible apply aa.u0);(case hx=>exact af))
|fail)
      all_goals first
       |exact⟨.inr rfl,rfl⟩
       |(exfalso;apply U;refine⟨?_,?_,?_⟩<;>first|assumption|omega)
    ·
     have G:fe m h=false:=by rw[<- Bool.not_eq_true,D];exact fun J=>hB ⟨J.2.2.1,J.2.2.2.1⟩
     rw[v,G,Bool.false_and,Bool.false_and];rcases Int.lt_or_le h.fa 0 with b1|b1
     ·
      exact ae
     ·
      rcases Int.lt_or_le h.fa t.av.length with b2|b2
      ·
       have b3:u.av.length≠1:=fun e=>hB ⟨⟨b1,b2⟩,e⟩;exact ae
      ·
       exact ae
   ·
    have G:=DC hA;rw[v,G,Bool.false_and,Bool.false_and]
    repeat'(first
|(refine aY ?_)
|((with_reducible apply aa.aX)<;>intro I)
|((with_reducible apply aa.bi)<;>intro I)
|(refine ar ?_)
|((with_reducible apply aa.aB);(case hW=>exact rfl);(case hx=>exact af))
|((with_reducible apply aa.u0);(case hx=>exact af))
|fail)
    all_goals first
     |exact⟨.inr rfl,rfl⟩
     |(exfalso;omega)
  ·
   rw[g_ _ h3,Bool.true_and,<- hY];obtain⟨f,hf⟩:∃f:Hde->Bool,(fun h=>!ci m.aG m.tables.length h.to h.table)=f:=⟨_,rfl⟩;rw[hf];refine ak ?_;refine ax.ind (fun q:Nat=>[(7,.t (.int .i64 (q:Int)))]) (fun q=>q<=m.aG.length/\(m.aG.drop 0).all f=(m.aG.drop q).all f) (fun q=>m.aG.length - q) 0 rfl ⟨by omega,rfl⟩ (fun q I=>?_);obtain⟨g1,g2⟩:=I;rw[g2];rcases Nat.lt_or_ge q m.aG.length with g3|g3
   ·
    obtain⟨h,hh⟩:=aj g3;have ab:=rz hh;have v:=i_ f hh;have kl:=kL h.to h.table;have Z:f h=!ci m.aG m.tables.length h.to h.table:=by rw[<- hf]
    obtain⟨r,hr⟩:∃r,ci m.aG m.tables.length h.to h.table=r:=⟨_,rfl⟩;rw[hr]at kl;rw[hr]at Z;rw[Z]at v;rw[v]
    cases r with
    |true=>
     exact ae
    |false=>
     exact ae
   ·
    rw[g_ _ g3];exact ae
 ·
  have e0:gC m=false:=by unfold gC;rw[decide_eq_false V];rfl
  rw[e0];exact ae
end Go.Proofs.YtjolgbkkocjpgaaGreatDoor
