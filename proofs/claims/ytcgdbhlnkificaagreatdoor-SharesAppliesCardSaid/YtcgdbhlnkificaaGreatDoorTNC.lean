/- The reference's models,part by part,as contracts:. No condition. -/
import Derived.Test.YtcgdbhlnkificaaGreatDoorTN
set_option linter.all false
namespace Go.Proofs.YtcgdbhlnkificaaGreatDoor
open Go.RowKit
set_option maxRecDepth 100000
set_option maxHeartbeats 16000000
def aZ(m:Md):bN m=.agg [aD m.ao,.arr (bC m.tables),.arr (cq m.bH),.arr (fk m.cons),.arr (fv m.ops),.arr (eg m.ax),.arr (c7 m.aG)]:=rfl
def ER{m:Md}(h:bx m):Cl aj 159 [.t (bN m)] [] (.ls 0) [.row false false 2 (bO (bW m.ao m.tables true))]:=by
 have v:=NV (S:=m.ao) (L:=m.tables) true (by have:=h.ao;omega) (by have:=h.tables;omega) (fun t u=>by have:=h.au t u;omega);rw[aZ];refine Cl.ap rfl Tryz.func159 rfl rfl rfl ?_;exact ah
def NY(k:Int):Cl aj 186 [.t (.int .i64 k)] [] (.t (.bool (oJ k))) []:=by
 refine Cl.ap rfl Tryz.func186 rfl rfl rfl ?_
 repeat'(first
|((with_reducible apply aa.aX)<;>intro u)
|((with_reducible apply aa.bi)<;>intro u)
|(refine aw ?_)
|((with_reducible apply aa.av);(case hW=>exact rfl);(case hx=>exact ae))
|((with_reducible apply aa.u0);(case hx=>exact ae))
|fail)
 all_goals(refine ba (.inr rfl) rfl ?_;unfold oJ;first|(simp_all;done)|(simp_all;omega))
def KZ{A B:List Int}{q:Nat}{x y:Int}(hx:A[q]?=some x)(hy:B[q]?=some y):iD (A.drop q) (B.drop q)=if x=y then iD (A.drop (q+1)) (B.drop (q+1))else decide (x <y):=by
 rw[bG hx,bG hy];rfl
def KY{A B:List Int}{q:Nat}(v:q<=A.length)(z:q<=B.length)(h:A.length<=q\/B.length<=q):iD (A.drop q) (B.drop q)=decide (A.length <B.length):=by
 rcases Nat.lt_or_ge q B.length with h1|h1
 ·have h2:A.length<=q:=by omega
  rw[eY h2];obtain⟨y,u⟩:=am h1;rw[bG u,decide_eq_true (show A.length <B.length by omega)];rfl
 ·rw[eY h1,decide_eq_false (show¬A.length <B.length by omega)];cases A.drop q <;>rfl
def NB{A B:List Int}(hA:A.length<=140737488351232)(hB:B.length<=140737488351232):Cl aj 164 [.t (aD A),.t (aD B)] [] (.t (.bool (iD A B))) []:=by
 have V:=aW A;have Z:=aW B;have G:iD A B=iD (A.drop 0) (B.drop 0):=rfl;rw[G];refine Cl.ap rfl Tryz.func164 rfl rfl rfl ?_;refine aq ?_;refine az.ind (fun q:Nat=>[(5,.t (.int .i64 (q:Int)))]) (fun q=>q<=A.length/\q<=B.length/\iD (A.drop 0) (B.drop 0)=iD (A.drop q) (B.drop q)) (fun q=>A.length - q) 0 rfl ⟨by omega,by omega,rfl⟩ (fun q z=>?_);obtain⟨h1,h2,h3⟩:=z;rw[h3];by_cases h4:q <A.length/\q <B.length
 ·
  obtain⟨u,I⟩:=h4;obtain⟨x,hx⟩:=am u;obtain⟨y,D⟩:=am I;have J:=bg hx;have U:=bg D;rw[KZ hx D];by_cases v:x=y
  ·
   rw[if_pos v];refine aq ?_;exact⟨q+1,rfl,rfl,⟨by omega,by omega,rfl⟩,by omega⟩
  ·
   rw[if_neg v]
   repeat'(first
|(refine a8 ?_)
|((with_reducible apply aa.aX)<;>intro z)
|(refine aw ?_)
|((with_reducible apply aa.av);(case hW=>exact rfl);(case hx=>exact ae))
|((with_reducible apply aa.u0);(case hx=>exact ae))
|fail)
   all_goals(refine ba (.inr rfl) rfl ?_;simp_all;try omega)
 ·
  rw[KY h1 h2 (by omega)];rcases Nat.lt_or_ge q A.length with u|u
  ·
   exact ah
  ·
   exact ah
def ve{S:List Int}{c:Cn}{t:Tb}:gV S c t=true↔t.kind=0/\t.au.length=2/\t.au.getD 0 0=t.au.getD 1 0/\t.first=c.first/\S.getD (t.au.getD 0 0).toNat 0=c.size:=by
 unfold gV;simp only[Bool.and_eq_true,decide_eq_true_eq]
def Dv{l:List Int}(h:l.length=2):∃a b,l=[a,b]:=by
 match l,h with
 |[a,b],_=>exact⟨a,b,rfl⟩
def Ns{m:Md}{c:Cn}(hm:bx m)(hv:bJ m.ao m.tables=true)(hc:c.row.bt.length<=140737488351232):Cl aj 162 [.t (bN m),.t (.agg (lg c))] [] (.t (.bool (jA m c))) []:=by
 obtain⟨Z,J,⟨T,I⟩,y,sz⟩:=c;have hT:=nG T;have hc:T.length<=140737488351232:=hc;have aF:=aW m.ao;have aB:=fT m.tables;have al:=kK hv;rw[aZ];have e1:lg ⟨Z,J,⟨T,I⟩,y,sz⟩=[.int .i64 Z,.int .i64 J,.arr (dU T),.int .i64 I,.int .i64 y,.int .i64 sz]:=rfl;rw[e1];refine Cl.ap rfl Tryz.func162 rfl rfl rfl ?_;by_cases h0:T.length=0/\I=0
 ·
  obtain⟨ab,rfl⟩:=h0;obtain⟨C,U⟩:∃C:Cn,(⟨Z,J,⟨T,0⟩,y,sz⟩:Cn)=C:=⟨_,rfl⟩
  have hg:jA m C=(m.tables.drop 0).any (gV m.ao C):=by
   rw[<- U];unfold jA;simp[ab]
  have ad:C.first=y:=by rw[<- U]
  have ag:C.size=sz:=by rw[<- U]
  rw[U,hg];refine aq ?_;refine az.ind (fun q:Nat=>[(5,.t (.int .i64 (q:Int)))]) (fun q=>q<=m.tables.length/\(m.tables.drop 0).any (gV m.ao C)=(m.tables.drop q).any (gV m.ao C)) (fun q=>m.tables.length - q) 0 rfl ⟨by omega,rfl⟩ (fun q V=>?_);obtain⟨h1,h2⟩:=V;rw[h2];rcases Nat.lt_or_ge q m.tables.length with h3|h3
  ·
   obtain⟨t,ht⟩:=am h3;have aM:=fB ht;have z:=o_ (gV m.ao C) ht;obtain⟨c1,c2,c3⟩:=lD hv ht;have aA:=aW t.au;by_cases hl:t.au.length=2
   ·
    obtain⟨a,b,u⟩:=Dv hl;rw[u]at c3;simp only[List.all_cons,Bool.and_eq_true]at c3;have D:=c3.1;simp only[cr,Bool.and_eq_true,decide_eq_true_eq]at D;obtain⟨g3,g4⟩:=D;obtain⟨s,G⟩:=am (xs:=m.ao) (k:=a.toNat) (by omega);have aG:=bg G
    have hP:gV m.ao C t=true↔t.kind=0/\a=b/\t.first=y/\s=sz:=by
     have ea:t.au.getD 0 0=a:=by rw[u];rfl
     have eb:t.au.getD 1 0=b:=by rw[u];rfl
     rw[ve,ea,eb,ad,ag,fL G];simp[hl]
    have an:(aL t.au)[0]?=some [.int .i64 a]:=bg (by rw[u];rfl);have ax:(aL t.au)[1]?=some [.int .i64 b]:=bg (by rw[u];rfl);by_cases v:t.kind=0/\a=b/\t.first=y/\s=sz
    ·
     rw[z,hP.2 v,Bool.true_or];obtain⟨k1,k2,k3,k4⟩:=v;exact ah
    ·
     have hf:gV m.ao C t=false:=by rw[<- Bool.not_eq_true,hP];exact v
     rw[z,hf,Bool.false_or]
     repeat'(first
|(refine a8 ?_)
|((with_reducible apply aa.aX)<;>intro V)
|((with_reducible apply aa.bi)<;>intro V)
|(refine aw ?_)
|((with_reducible apply aa.av);(case hW=>exact rfl);(case hx=>exact ae))
|((with_reducible apply aa.u0);(case hx=>exact ae))
|fail)
     all_goals first
      |exact⟨q+1,rfl,rfl,⟨by omega,rfl⟩,by omega⟩
      |(exfalso;apply v;refine⟨?_,?_,?_,?_⟩<;>first|assumption|omega)
   ·
    have hf:gV m.ao C t=false:=by rw[<- Bool.not_eq_true,ve];exact fun h=>hl h.2.1
    rw[z,hf,Bool.false_or];exact ah
  ·
   rw[o9 _ h3];exact ah
 ·
  have hg:jA m ⟨Z,J,⟨T,I⟩,y,sz⟩=false:=by
   rw[<- Bool.not_eq_true];unfold jA;simp only[Bool.and_eq_true,decide_eq_true_eq];exact fun h=>h0 h.1
  rw[hg]
  repeat'(first
|((with_reducible apply aa.iM);(case hp=>exact ak))
|((with_reducible apply aa.aX)<;>intro V)
|(refine aw ?_)
|((with_reducible apply aa.av);(case hW=>exact rfl);(case hx=>exact ae))
|((with_reducible apply aa.u0);(case hx=>exact ae))
|fail)
  all_goals first
   |exact⟨.inr rfl,rfl⟩
   |(exfalso;apply h0;constructor <;>omega)
def KS(l:List Hde)(n:Nat)(a b:Int):b_ l (n+1) a b=(decide (a=b)||(l.drop 0).any fun h=>decide (h.table=a)&&b_ l n h.to b):=rfl
def NA{m:Md}(hm:bx m):∀(n:Nat) (N a b:Int),N=n->n<=1000->Cl aj 166 [.t (bN m),.t (.int .i64 a),.t (.int .i64 b),.t (.int .i64 N)] [] (.t (.bool (b_ m.aG n a b))) []:=by
 intro n;have V:=qX m.aG;have Z:=hm.aG;rw[aZ]
 induction n with
 |zero=>
  intro N a b J hn;have I:b_ m.aG 0 a b=decide (a=b):=rfl;rw[I];refine Cl.ap rfl Tryz.func166 rfl rfl rfl ?_;by_cases y:a=b
  ·
   rw[decide_eq_true y];exact ah
  ·
   rw[decide_eq_false y];refine aq ?_;refine az.step ?_;exact ah
 |succ n ih=>
  intro N a b J hn;rw[KS];refine Cl.ap rfl Tryz.func166 rfl rfl rfl ?_;by_cases y:a=b
  ·
   rw[decide_eq_true y,Bool.true_or];exact ah
  ·
   rw[decide_eq_false y,Bool.false_or];obtain⟨f,D⟩:∃f:Hde->Bool,(fun h=>decide (h.table=a)&&b_ m.aG n h.to b)=f:=⟨_,rfl⟩;rw[D];refine aq ?_;refine az.ind (fun q:Nat=>[(9,.t (.int .i64 (q:Int)))]) (fun q=>q<=m.aG.length/\(m.aG.drop 0).any f=(m.aG.drop q).any f) (fun q=>m.aG.length - q) 0 rfl ⟨by omega,rfl⟩ (fun q hq=>?_);obtain⟨h1,h2⟩:=hq;rw[h2];rcases Nat.lt_or_ge q m.aG.length with h3|h3
   ·
    obtain⟨h,G⟩:=am h3;have U:=qW G;have u:=o_ f G;have kl:=ih (N - 1) h.to b (by omega) (by omega);have v:f h=(decide (h.table=a)&&b_ m.aG n h.to b):=by rw[<- D]
    obtain⟨r,hr⟩:∃r,b_ m.aG n h.to b=r:=⟨_,rfl⟩;rw[hr]at kl v;by_cases z:h.table=a
    ·
     rw[decide_eq_true z,Bool.true_and]at v;rw[v]at u
     cases r with
     |true=>
      rw[u,Bool.true_or];exact ah
     |false=>
      rw[Bool.false_or]at u;rw[u];exact ah
    ·
     rw[decide_eq_false z,Bool.false_and]at v;rw[v,Bool.false_or]at u;rw[u];exact ah
   ·
    rw[o9 _ h3];exact ah
def CX{i:Int}{n:Nat}:qY i n=true↔0<=i/\i <n:=by
 unfold qY;simp only[Bool.and_eq_true,decide_eq_true_eq]
def CU{m:Md}{h:Hde}(hn:¬(0<=h.table/\h.table <m.tables.length/\0<=h.to/\h.to <m.tables.length/\h.table≠h.to)):eN m h=false:=by
 rw[<- Bool.not_eq_true];intro u;unfold eN at u;simp only[Bool.and_eq_true,CX,Bool.not_eq_true',decide_eq_false_iff_not]at u;exact hn ⟨u.1.1.1,u.1.1.2,u.1.2.1.1,u.1.2.1.2,u.1.2.2⟩
def CV{m:Md}{h:Hde}{t u:Tb}(v:0<=h.table/\h.table <m.tables.length/\0<=h.to/\h.to <m.tables.length/\h.table≠h.to)(ht:m.tables[h.table.toNat]?=some t)(z:m.tables[h.to.toNat]?=some u):eN m h=true↔t.kind=0/\u.kind=0/\(0<=h.eM/\h.eM <t.au.length)/\u.au.length=1/\u.au.getD 0 0=t.au.getD h.eM.toNat 0:=by
 unfold eN;rw[List.getD_eq_getElem?_getD,List.getD_eq_getElem?_getD,ht,z];simp only[Bool.and_eq_true,CX,Bool.not_eq_true',decide_eq_false_iff_not,decide_eq_true_eq,Option.getD_some];constructor
 ·rintro⟨_,⟨h1,h2⟩,h3,h4,y⟩;exact⟨h1,h2,h3,h4,y⟩
 ·rintro⟨h1,h2,h3,h4,y⟩;exact⟨⟨⟨v.1,v.2.1⟩,⟨v.2.2.1,v.2.2.2.1⟩,v.2.2.2.2⟩,⟨h1,h2⟩,h3,h4,y⟩
def Du{l:List Int}(h:l.length=1):∃a,l=[a]:=by
 match l,h with
 |[a],_=>exact⟨a,rfl⟩
def Nt{m:Md}(hm:bx m)(hv:bJ m.ao m.tables=true):Cl aj 119 [.t (bN m)] [] (.t (.bool (gh m))) []:=by
 have al:=qX m.aG;have an:=fT m.tables;have ag:=kK hv;have kL:=fun a b=>NA hm m.tables.length (m.tables.length:Int) a b rfl (by omega);rw[aZ]at kL⊢;refine Cl.ap rfl Tryz.func119 rfl rfl rfl ?_;by_cases V:m.aG.length<=12
 ·
  have e0:gh m=((m.aG.drop 0).all (eN m)&&(m.aG.drop 0).all fun h=>!b_ m.aG m.tables.length h.to h.table):=by unfold gh;simp[V]
  obtain⟨Y,hY⟩:∃Y,((m.aG.drop 0).all fun h=>!b_ m.aG m.tables.length h.to h.table)=Y:=⟨_,rfl⟩;rw[e0,hY];refine aq ?_;refine az.ind (fun q:Nat=>[(3,.t (.int .i64 (q:Int)))]) (fun q=>q<=m.aG.length/\(m.aG.drop 0).all (eN m)=(m.aG.drop q).all (eN m)) (fun q=>m.aG.length - q) 0 rfl ⟨by omega,rfl⟩ (fun q I=>?_);obtain⟨h1,h2⟩:=I;rw[h2];rcases Nat.lt_or_ge q m.aG.length with h3|h3
  ·
   obtain⟨h,hh⟩:=am h3;have ab:=qW hh;have v:=iT (eN m) hh;by_cases hA:0<=h.table/\h.table <m.tables.length/\0<=h.to/\h.to <m.tables.length/\h.table≠h.to
   ·
    obtain⟨t,ht⟩:=am (xs:=m.tables) (k:=h.table.toNat) (by omega);obtain⟨u,hu⟩:=am (xs:=m.tables) (k:=h.to.toNat) (by omega);have aB:=fB ht;have aF:=fB hu;have ax:=aW t.au;have aA:=aW u.au;have D:=CV hA ht hu;obtain⟨a1,a2,a3,a4,a5⟩:=hA;by_cases hB:(0<=h.eM/\h.eM <t.au.length)/\u.au.length=1
    ·
     obtain⟨⟨b1,b2⟩,b3⟩:=hB;obtain⟨y,hy⟩:=Du b3;obtain⟨z,hz⟩:=am (xs:=t.au) (k:=h.eM.toNat) (by omega);have aM:(aL u.au)[0]?=some [.int .i64 y]:=bg (by rw[hy];rfl);have aN:=bg hz;have ey:u.au.getD 0 0=y:=by rw[hy];rfl
     rw[ey,fL hz]at D;by_cases U:t.kind=0/\u.kind=0/\y=z
     ·
      have ad:eN m h=true:=D.2 ⟨U.1,U.2.1,⟨b1,b2⟩,b3,U.2.2⟩;rw[ad,Bool.true_and]at v;obtain⟨p1,p2,p3⟩:=U;rw[v];exact ah
     ·
      have G:eN m h=false:=by rw[<- Bool.not_eq_true,D];exact fun J=>U ⟨J.1,J.2.1,J.2.2.2.2⟩
      rw[v,G,Bool.false_and,Bool.false_and]
      repeat'(first
|(refine a8 ?_)
|((with_reducible apply aa.gA)<;>intro I)
|((with_reducible apply aa.fz)<;>intro I)
|(refine aw ?_)
|((with_reducible apply ay.u);(case hfl=>kernel_rfl);(case hx=>exact ae))
|((with_reducible apply aa.av);(case hW=>exact rfl);(case hx=>exact ae))
|((with_reducible apply aa.u0);(case hx=>exact ae))
|fail)
      all_goals first
       |exact⟨.inr rfl,rfl⟩
       |(exfalso;apply U;refine⟨?_,?_,?_⟩<;>first|assumption|omega)
    ·
     have G:eN m h=false:=by rw[<- Bool.not_eq_true,D];exact fun J=>hB ⟨J.2.2.1,J.2.2.2.1⟩
     rw[v,G,Bool.false_and,Bool.false_and];rcases Int.lt_or_le h.eM 0 with b1|b1
     ·
      exact ah
     ·
      rcases Int.lt_or_le h.eM t.au.length with b2|b2
      ·
       have b3:u.au.length≠1:=fun e=>hB ⟨⟨b1,b2⟩,e⟩;exact ah
      ·
       exact ah
   ·
    have G:=CU hA;rw[v,G,Bool.false_and,Bool.false_and]
    repeat'(first
|(refine a8 ?_)
|((with_reducible apply aa.aX)<;>intro I)
|((with_reducible apply aa.bi)<;>intro I)
|(refine aw ?_)
|((with_reducible apply aa.av);(case hW=>exact rfl);(case hx=>exact ae))
|((with_reducible apply aa.u0);(case hx=>exact ae))
|fail)
    all_goals first
     |exact⟨.inr rfl,rfl⟩
     |(exfalso;omega)
  ·
   rw[gT _ h3,Bool.true_and,<- hY];obtain⟨f,hf⟩:∃f:Hde->Bool,(fun h=>!b_ m.aG m.tables.length h.to h.table)=f:=⟨_,rfl⟩;rw[hf];refine aq ?_;refine az.ind (fun q:Nat=>[(7,.t (.int .i64 (q:Int)))]) (fun q=>q<=m.aG.length/\(m.aG.drop 0).all f=(m.aG.drop q).all f) (fun q=>m.aG.length - q) 0 rfl ⟨by omega,rfl⟩ (fun q I=>?_);obtain⟨g1,g2⟩:=I;rw[g2];rcases Nat.lt_or_ge q m.aG.length with g3|g3
   ·
    obtain⟨h,hh⟩:=am g3;have ab:=qW hh;have v:=iT f hh;have kl:=kL h.to h.table;have Z:f h=!b_ m.aG m.tables.length h.to h.table:=by rw[<- hf]
    obtain⟨r,hr⟩:∃r,b_ m.aG m.tables.length h.to h.table=r:=⟨_,rfl⟩;rw[hr]at kl;rw[hr]at Z;rw[Z]at v;rw[v]
    cases r with
    |true=>
     exact ah
    |false=>
     exact ah
   ·
    rw[gT _ g3];exact ah
 ·
  have e0:gh m=false:=by unfold gh;rw[decide_eq_false V];rfl
  rw[e0];exact ah
end Go.Proofs.YtcgdbhlnkificaaGreatDoor
