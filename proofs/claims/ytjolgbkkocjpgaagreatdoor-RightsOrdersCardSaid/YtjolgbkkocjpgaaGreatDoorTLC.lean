/- The code's models,part by part,as contracts: names,rows,single rows,graphs. No condition. -/
import Derived.Test.YtjolgbkkocjpgaaGreatDoorTLB
import Derived.Test.YtjolgbkkocjpgaaGreatDoorTM
import Derived.Test.YtjolgbkkocjpgaaGreatDoorTP
import Derived.Test.YtjolgbkkocjpgaaGreatDoorTNC
import Derived.Test.YtjolgbkkocjpgaaGreatDoorTNB
set_option linter.defProp false
set_option linter.unusedSimpArgs false
set_option linter.unusedVariables false
set_option linter.unusedSectionVars false
namespace Go.Proofs.YtjolgbkkocjpgaaGreatDoor
open Go.RowKit
set_option maxRecDepth 100000
set_option maxHeartbeats 16000000
def Og{N:List ByteArray}{q:Nat}{s:ByteArray}(h:N[q]?=some s):j0 (N.take q)++[.str s]=j0 (N.take (q+1)):=by unfold j0;rw[List.take_add_one,h];simp
def E6{N:List ByteArray}(hl:N.length<=140737488351232):Cl ai 93 [.t (.arr (b5 N))] [] (.t (.bool (gu N))) []:=by
 have U:=mY N;have G:gu N=aY (jo N) 0 (N.drop 0):=rfl;rw[G];refine Cl.ao rfl Tryz.func93 rfl rfl rfl ?_;refine ar ?_;refine aC.cB (fun q:Nat=>[(9,.t (.int .i64 (q:Int)))]) (fun q=>[.map false (j0 (N.take q)) (dP q)]) (fun q=>q<=N.length/\aY (jo N) 0 (N.drop 0)=aY (jo N) q (N.drop q)) (fun q=>N.length - q) 0 rfl rfl ⟨by omega,rfl⟩ (fun q J=>?_);obtain⟨h1,h2⟩:=J;rw[h2];rcases Nat.lt_or_ge q N.length with h3|h3
 ·
  obtain⟨s,hs⟩:=am h3;have hc:=DT hs;have z:=EV s;have v:=Ed hs;have D:=Ee hs;have hks:=Og hs;have hvs:=vI q
  cases y:fR s with
  |false=>
   rw[y]at z;rw[v (fun h=>by rw[y]at h;cases h.1)];exact af
  |true=>
   rw[y]at z
   cases ha:(N.take q).any fun u=>decide (u=s)with
   |true=>
    obtain⟨j,hf,I⟩:=zm ha;have hz:=sM (n:=q) (j:=j) (by rw[List.length_take]at I;omega);rw[v (fun h=>by rw[ha]at h;cases h.2)]
    repeat'(first
|(with_reducible first|apply ac.seq|apply ac.block)
|((with_reducible apply ac.text);(try case hm=>exact rfl))
|(with_reducible first|apply ac.skip|apply ac.ret|apply az|apply aV|apply bq)
|((with_reducible apply ac.aA);(case hc=>exact rfl))
|((with_reducible apply aa.aE);(case hp=>exact aj))
|(with_reducible apply aa.ap)
|((with_reducible apply aa.aD);(case hW=>exact rfl);(case hx=>first
|((with_reducible apply ae.nG);(case hm|hk|ho=>exact rfl);(case hf=>exact hf);(case hz=>exact hz))
|exact ah))
|((with_reducible apply aa.u0);(case hx=>first
|(exact aq z)
|exact ah))
|fail)
    exact⟨.inr rfl,rfl⟩
   |false=>
    have hf:=zl ha
    repeat'(first
|(with_reducible first|apply ac.seq|apply ac.block)
|((with_reducible apply ac.text);(try case hm=>exact rfl))
|(with_reducible first|apply ac.skip|apply az)
|((with_reducible apply ac.aA);(case hc=>exact rfl))
|((with_reducible apply ac.aH);(case hc=>exact rfl))
|((with_reducible apply aa.aE);(case hp=>exact aj))
|(with_reducible first|apply aa.ap|apply aa.bj)
|((with_reducible apply aa.aD);(case hW=>exact rfl);(case hx=>first
|((with_reducible apply ae.lk);(case hm|hk|ho=>exact rfl);(case hf=>exact hf);(case hz=>exact rfl))
|exact ah))
|((with_reducible apply aa.u0);(case hx=>first
|((with_reducible apply ae.px);(case hs=>exact fun _=>rfl);(case hm|ha|hk|hd|hy|hb=>exact rfl);(case hf=>exact hf);(case hks=>exact hks);(case hvs=>exact hvs);(case hfr=>exact leq))
|(exact aq z)
|exact ah))
|fail)
    exact⟨q+1,rfl,rfl,⟨by omega,D y ha⟩,by omega⟩
 ·
  rw[eT h3];exact af
def dh(m:Md)(l:List (Int×Int)):List AV:=[ax m.ak,.arr (br m.tables),.arr (b5 m.bw),.arr (dN m.cons),.arr (dO m.ops),.arr (de m.ay),.arr (cG m.aI),.arr (bJ l)]
def E7{m:Md}{l:List (Int×Int)}{r:Rw}(hr:r.a_.length<=140737488351232)(hl:l.length<=100000):Cl ai 143 [.t (.agg (dh m l)),.t (.agg (e8 r))] [] (.t (.bool (cy l.length r))) []:=by
 obtain⟨T,B⟩:=r;have V:e8 ⟨T,B⟩=[.arr (dM T),.int .i64 B]:=rfl;have Z:cy l.length ⟨T,B⟩=(aY (nR l.length T) 0 (T.drop 0)&&cE B 1000000000):=by unfold cy;rw[<- Kk];rfl
 rw[V,Z];unfold dh;have hr:T.length<=140737488351232:=hr;have hT:=l8 T;have hL:=jy l;have kB:=vK B (m:=1000000000) (.inr (.inl rfl));refine Cl.ao rfl Tryz.func143 rfl rfl rfl ?_;refine ar ?_;refine aC.ind (fun q:Nat=>[(5,.t (.int .i64 (dc Tm.cell T q))),(11,.t (.int .i64 (q:Int)))]) (fun q=>q<=T.length/\aY (nR l.length T) 0 (T.drop 0)=aY (nR l.length T) q (T.drop q)) (fun q=>T.length - q) 0 rfl ⟨by omega,rfl⟩ (fun q I=>?_);obtain⟨h1,h2⟩:=I;rw[h2];rcases Nat.lt_or_ge q T.length with h3|h3
 ·
  obtain⟨t,z⟩:=am h3;have hc:=mZ z;have J:=vK t.bN (m:=1000) (.inl rfl);have u:=gz (p:=nR l.length T) z;have v:=gA (p:=nR l.length T) z;have G:dc Tm.cell T (q+1)=t.cell:=by simp only[dc,z]
  have y:nR l.length T q t=true↔dc Tm.cell T q <t.cell/\t.cell <l.length/\t.bN≠0/\cE t.bN 1000=true:=by
   unfold nR;simp only[Bool.and_eq_true,Bool.not_eq_true',decide_eq_true_eq,decide_eq_false_iff_not,ne_eq]
  rw[y]at u v;obtain⟨p,hp⟩:∃p,dc Tm.cell T q=p:=⟨_,rfl⟩;rw[hp]at u v⊢;obtain⟨U,D⟩:∃b,cE t.bN 1000=b:=⟨_,rfl⟩;rw[D]at J u v
  cases U with
  |false=>
   rw[u (fun h=>by cases h.2.2.2)];exact af
  |true=>
   repeat'(first
|(with_reducible first|apply ac.seq|apply ac.block)
|((with_reducible apply ac.text);(try case hm=>exact rfl))
|(with_reducible first|apply ac.skip|apply ac.ret|apply az|apply aV|apply bq)
|((with_reducible apply ac.aA);(case hc=>exact rfl))
|((with_reducible apply ac.aH);(case hc=>exact rfl))
|((with_reducible apply aa.aE);(case hp=>exact aj))
|((with_reducible apply aa.bc)<;>intro I)
|((with_reducible apply aa.bg)<;>intro I)
|(with_reducible first|apply aa.ap|apply aa.bj)
|((with_reducible apply aa.gf);(case hW=>exact rfl))
|((with_reducible apply aa.aD);(case hW=>exact rfl);(case hx=>first
|(exact aq J)
|exact ah))
|((with_reducible apply aa.u0);(case hx=>exact ah))
|fail)
   all_goals first
    |exact aZ (.inr rfl) rfl (by rw[u (fun h=>by obtain⟨_,_,_,_⟩:=h;omega)];rfl)
    |exact⟨q+1,by rw[G];rfl,rfl,⟨by omega,v ⟨by omega,by omega,by omega,rfl⟩⟩,by omega⟩
 ·
  rw[eT h3];exact af
def Oh{A B:List Tm}(U:A.length<=140737488351232)(V:B.length<=140737488351232):Cl ai 173 [.t (.arr (dM A)),.t (.arr (dM B))] [] (.t (.bool (decide (A=B)))) []:=by
 refine Cl.ao rfl Tryz.func173 rfl rfl rfl ?_;have G:=l8 A;have I:=l8 B;by_cases D:A.length=B.length
 ·
  refine ar ?_;refine aC.ind (fun q:Nat=>[(13,.t (.int .i64 (q:Int)))]) (fun q=>q<=A.length/\decide (A=B)=decide (A.drop q=B.drop q)) (fun q=>A.length - q) 0 rfl ⟨by omega,rfl⟩ (fun q J=>?_);obtain⟨h1,h2⟩:=J;rw[h2];rcases Nat.lt_or_ge q A.length with h3|h3
  ·
   obtain⟨x,hx⟩:=am h3;obtain⟨y,hy⟩:=am (xs:=B) (k:=q) (by omega);have hc:=mZ hx;have hd:=mZ hy;by_cases z:x=y
   ·
    have u:decide (A.drop q=B.drop q)=decide (A.drop (q+1)=B.drop (q+1)):=by rw[bS hx,bS hy,z];simp
    have v:ic ai.P 20 90 [.int .i64 x.cell,.int .i64 x.bN] [.int .i64 y.cell,.int .i64 y.bN]=some true:=by rw[vP,z];simp
    repeat'(first
|(with_reducible first|apply ac.seq|apply ac.block)
|((with_reducible apply ac.text);(try case hm=>exact rfl))
|((with_reducible apply ac.drawn);(case hm=>exact rfl))
|(with_reducible first|apply ac.skip|apply az|apply bk)
|((with_reducible apply ac.aA);(case hc=>exact rfl))
|((with_reducible apply ac.aH);(case hc=>exact rfl))
|((with_reducible apply aa.aE);(case hp=>exact aj))
|(with_reducible apply aa.ap)
|((with_reducible apply aa.u0);(case hx=>first
|((with_reducible apply ae.uF);(case hx|hy=>exact rfl);(case hg=>exact vO);(case ht=>exact rfl);(case hr=>exact v))
|exact ah))
|fail)
    exact⟨q+1,rfl,rfl,⟨by omega,u⟩,by omega⟩
   ·
    have u:decide (A.drop q=B.drop q)=false:=by rw[bS hx,bS hy];simp[z]
    have v:ic ai.P 20 90 [.int .i64 x.cell,.int .i64 x.bN] [.int .i64 y.cell,.int .i64 y.bN]=some false:=by
     rw[vP];obtain⟨x1,x2⟩:=x;obtain⟨Z,y2⟩:=y;simp at z⊢;exact z
    rw[u]
    repeat'(first
|(with_reducible first|apply ac.seq|apply ac.block)
|((with_reducible apply ac.text);(try case hm=>exact rfl))
|((with_reducible apply ac.drawn);(case hm=>exact rfl))
|(with_reducible first|apply ac.skip|apply ac.ret|apply az|apply aV|apply bq)
|((with_reducible apply ac.aA);(case hc=>exact rfl))
|((with_reducible apply aa.aE);(case hp=>exact aj))
|(with_reducible apply aa.ap)
|((with_reducible apply aa.u0);(case hx=>first
|((with_reducible apply ae.uF);(case hx|hy=>exact rfl);(case hg=>exact vO);(case ht=>exact rfl);(case hr=>exact v))
|exact ah))
|fail)
    exact⟨.inr rfl,rfl⟩
  ·
   have u:decide (A.drop q=B.drop q)=true:=by rw[fE h3,fE (l:=B) (by omega)];rfl
   rw[u];exact af
 ·
  have u:decide (A=B)=false:=by simp;intro h;exact D (by rw[h])
  rw[u];exact af
def E8{r:Rw}{c f b:Int}(hr:r.a_.length<=140737488351232):Cl ai 145 [.t (.agg (e8 r)),.t (.int .i64 c),.t (.int .i64 f),.t (.int .i64 b)] [] (.t (.bool (decide (r=⟨[⟨c,f⟩],b⟩)))) []:=by
 obtain⟨T,B⟩:=r;have v:e8 ⟨T,B⟩=[.arr (dM T),.int .i64 B]:=rfl;have hr:T.length<=140737488351232:=hr;rw[v];have u:=Oh (A:=T) (B:=[⟨c,f⟩]) hr (by simp);have y:dM [⟨c,f⟩]=[[.int .i64 c,.int .i64 f]]:=rfl;rw[y]at u;obtain⟨d,hd⟩:∃d,decide (T=[(⟨c,f⟩:Tm)])=d:=⟨_,rfl⟩
 have z:decide ((⟨T,B⟩:Rw)=⟨[⟨c,f⟩],b⟩)=(d&&decide (B=b)):=by
  rw[<- hd,Bool.eq_iff_iff];simp
 rw[z];rw[hd]at u;refine Cl.ao rfl Tryz.func145 rfl rfl rfl ?_
 cases d with
 |true=>
  repeat'(first
|(with_reducible apply ac.seq)
|((with_reducible apply ac.text);(try case hm=>exact rfl))
|(with_reducible apply ac.ret)
|((with_reducible apply aa.bg)<;>intro D)
|(with_reducible apply aa.ap)
|((with_reducible apply aa.aD);(case hW=>exact rfl);(case hx=>exact ah))
|((with_reducible apply aa.u0);(case hx=>first
|((with_reducible apply ae.jQ (es:=[[.int .i64 c,.int .i64 f]]));(case hw=>exact rfl);(case ho=>kernel_rfl);(case h=>kernel_rfl))
|(exact aq u)
|exact ah))
|fail)
  all_goals(refine aZ (.inr rfl) rfl ?_;first|(simp_all;done)|(simp_all;omega))
 |false=>
  repeat'(first
|(with_reducible apply ac.seq)
|((with_reducible apply ac.text);(try case hm=>exact rfl))
|(with_reducible first|apply ac.ret|apply aa.ap)
|((with_reducible apply aa.gf);(case hW=>exact rfl))
|((with_reducible apply aa.u0);(case hx=>first
|((with_reducible apply ae.jQ (es:=[[.int .i64 c,.int .i64 f]]));(case hw=>exact rfl);(case ho=>kernel_rfl);(case h=>kernel_rfl))
|(exact aq u)
|exact ah))
|fail)
  exact⟨.inr rfl,rfl⟩
def Oi{m:Md}{l:List (Int×Int)}{c:Cn}{t:Tb}(hv:bH m.ak m.tables=true)(hm:bt m)(ht:t∈m.tables):Cl ai 172 [.t (.agg (dV t)),.t (.tp (lj c)),.t (.tp (dh m l))] [] (.t (.bool (gT m.ak c t))) []:=by
 obtain⟨kd,J,⟨T,G⟩,y,sz⟩:=c;obtain⟨k,ht⟩:=List.mem_iff_getElem?.1 ht;have e1:lj ⟨kd,J,⟨T,G⟩,y,sz⟩=[.int .i64 kd,.int .i64 J,.arr (dM T),.int .i64 G,.int .i64 y,.int .i64 sz]:=rfl;have e2:dV t=[.str t.name,.int .i64 t.kind,ax t.au,.int .i64 t.lo,.int .i64 t.hi,.int .i64 t.first]:=rfl;rw[e1,e2];unfold dh;obtain⟨c1,c2,I⟩:=jp hv ht;have al:=aQ t.au;have an:=aQ m.ak;have ab:=iQ hv;obtain⟨C,U⟩:∃C:Cn,(⟨kd,J,⟨T,G⟩,y,sz⟩:Cn)=C:=⟨_,rfl⟩;have V:C.first=y:=by rw[<- U]
 have Z:C.size=sz:=by rw[<- U]
 rw[U];refine Cl.ao rfl Tryz.func172 rfl rfl rfl ?_;by_cases hl:t.au.length=2
 ·
  obtain⟨a,b,u⟩:=Em hl;rw[u]at I;simp only[List.all_cons,Bool.and_eq_true]at I;have z:=I.1;simp only[cg,Bool.and_eq_true,decide_eq_true_eq]at z;obtain⟨g3,g4⟩:=z;obtain⟨s,D⟩:=am (xs:=m.ak) (k:=a.toNat) (by omega);have aw:=aU D
  have hP:gT m.ak C t=true↔t.kind=0/\a=b/\t.first=y/\s=sz:=by
   have ea:t.au.getD 0 0=a:=by rw[u];rfl
   have eb:t.au.getD 1 0=b:=by rw[u];rfl
   rw[vR,ea,eb,V,Z,eR D];simp[hl]
  have ad:(aG t.au)[0]?=some [.int .i64 a]:=aU (by rw[u];rfl);have ag:(aG t.au)[1]?=some [.int .i64 b]:=aU (by rw[u];rfl);by_cases v:t.kind=0/\a=b/\t.first=y/\s=sz
  ·
   rw[hP.2 v];obtain⟨k1,k2,k3,k4⟩:=v;exact af
  ·
   have hf:gT m.ak C t=false:=by rw[<- Bool.not_eq_true,hP];exact v
   rw[hf]
   repeat'(first
|(with_reducible apply ac.seq)
|((with_reducible apply ac.text);(try case hm=>exact rfl))
|((with_reducible apply ac.drawn);(case hm=>exact rfl))
|(with_reducible apply ac.ret)
|((with_reducible apply aa.bc)<;>intro hq)
|((with_reducible apply aa.cd);(case hp=>exact aj))
|((with_reducible apply aa.cA);(case hp=>exact aj))
|((with_reducible apply aa.bg)<;>intro hq)
|(with_reducible apply aa.ap)
|((with_reducible apply aa.gf);(case hW=>exact rfl))
|((with_reducible apply aa.aD);(case hW=>exact rfl);(case hx=>exact ah))
|((with_reducible apply aa.u0);(case hx=>exact ah))
|fail)
   all_goals first
    |exact⟨.inr rfl,rfl⟩
    |(exfalso;apply v;refine⟨?_,?_,?_,?_⟩<;>first|assumption|omega)
 ·
  have hf:gT m.ak C t=false:=by rw[<- Bool.not_eq_true,vR];exact fun h=>hl h.2.1
  rw[hf];exact af
def Oj{m:Md}{l:List (Int×Int)}{c:Cn}(hm:bt m)(hv:bH m.ak m.tables=true)(hc:c.row.a_.length<=140737488351232):Cl ai 144 [.t (.agg (dh m l)),.t (.agg (lj c))] [] (.t (.bool (jm m c))) []:=by
 have D:=NT (C:=m.tables) (p:=gT m.ak c) (c1:=.tp (lj c)) (c2:=.tp (dh m l)) (by have:=hm.tables;omega) (fun t ht=>Oi hv hm ht);obtain⟨g,J⟩:∃g,m.tables.any (gT m.ak c)=g:=⟨_,rfl⟩;have V:jm m c=((decide (c.row.a_.length=0)&&decide (c.row.gP=0))&&g):=by unfold jm;rw[J]
 rw[J]at D;rw[V];obtain⟨U,I,⟨T,u⟩,G,sz⟩:=c;have hT:=l8 T;have hc:T.length<=140737488351232:=hc;have Z:lj ⟨U,I,⟨T,u⟩,G,sz⟩=[.int .i64 U,.int .i64 I,.arr (dM T),.int .i64 u,.int .i64 G,.int .i64 sz]:=rfl;rw[Z]at D⊢;unfold dh at D⊢;refine Cl.ao rfl Tryz.func144 rfl rfl rfl ?_;by_cases v:T.length=0/\u=0
 ·
  obtain⟨y,rfl⟩:=v;rw[decide_eq_true y];exact af
 ·
  have z:(decide (T.length=0)&&decide (u=0))=false:=by
   rw[<- Bool.not_eq_true,Bool.and_eq_true,decide_eq_true_eq,decide_eq_true_eq];exact v
  rw[z]
  repeat'(first
|(with_reducible apply ac.seq)
|((with_reducible apply ac.text);(try case hm=>exact rfl))
|(with_reducible apply ac.ret)
|((with_reducible apply aa.bc)<;>intro hq)
|((with_reducible apply aa.cA);(case hp=>exact aj))
|(with_reducible apply aa.ap)
|((with_reducible apply aa.gf);(case hW=>exact rfl))
|((with_reducible apply aa.aD);(case hW=>exact rfl);(case hx=>exact ah))
|((with_reducible apply aa.u0);(case hx=>exact ah))
|fail)
  all_goals first
   |exact⟨.inr rfl,rfl⟩
   |(exfalso;apply v;constructor <;>omega)
set_option maxHeartbeats 32000000
def Ok{u:cD}{t:Tb}(h:t.kind=2\/t.kind=3):mN u t=((decide (u.kind=0)||decide (u.kind=1))&&decide (u.value=0)):=by
 unfold mN nN;rw[if_pos (by rcases h with h|h <;>simp[h])]
def Ol{u:cD}{t:Tb}(h:¬(t.kind=2\/t.kind=3)):mN u t=(decide (u.kind=2)&&(decide (t.lo<=u.value)&&decide (u.value<=t.hi))):=by
 unfold mN nN;rw[if_neg];rw[Bool.or_eq_true,decide_eq_true_eq,decide_eq_true_eq];exact h
def Om{m:Md}{l:List (Int×Int)}{u:cD}(hv:bH m.ak m.tables=true)(hm:bt m)(hc:u.cell<=9223372036854775807):Cl ai 175 [.t (.agg (dh m l)),.t (.agg (sH u))] [] (.t (.bool (nS m u))) []:=by
 have y:=Oe (s:=false) (c:=u.cell) hv hc;have G:sH u=[.int .i64 u.kind,.int .i64 u.cell,.int .i64 u.value]:=rfl;rw[G];unfold dh nS;have U:=e9 m.tables
 cases z:eU m.ak m.tables false u.cell with
 |none=>
  rw[z]at y;have y:Cl ai 192 [.t (ax m.ak),.t (.arr (br m.tables)),.t (.bool false),.t (.int .i64 u.cell)] [] (.aL [.t (.int .i64 0),.nil,.t (.bool false)]) []:=y;refine Cl.ao rfl Tryz.func175 rfl rfl rfl ?_;exact af
 |some Z=>
  obtain⟨i,t⟩:=Z;rw[z]at y;have y:Cl ai 192 [.t (ax m.ak),.t (.arr (br m.tables)),.t (.bool false),.t (.int .i64 u.cell)] [] (.aL [.t (.int .i64 (i:Int)),.ls 0,.t (.bool true)]) [.row false false 1 (aG (pe m.ak t.au (u.cell - t.first)))]:=y
  have D:m.tables[i]?=some t:=by
   unfold eU at z;rw[if_pos hv]at z;have:=(uS z).2.1;rwa[Nat.sub_zero]at this
  have V:=eK D;show Cl ai _ _ [] (.t (.bool (mN u t))) []
  refine Cl.ao rfl Tryz.func175 rfl rfl rfl ?_;by_cases v:t.kind=2\/t.kind=3
  ·
   rw[Ok v];rcases v with v|v
   ·
    exact af
   ·
    exact af
  ·
   rw[Ol v];have I:¬t.kind=2:=fun h=>v (.inl h);have J:¬t.kind=3:=fun h=>v (.inr h);exact af
def On(x:kU):qI x=[.arr (iS x.delta),.arr (iz x.hold),.arr (iA x.bZ)]:=rfl
def Oo{m:Md}{l:List (Int×Int)}{r:Rw}(hr:r.a_.length<=140737488351232)(hl:l.length<=100000):Cl ai 177 [.t (.agg (e8 r)),.t (.tp (dh m l))] [] (.t (.bool (!cy l.length r))) []:=by
 have u:=E7 (m:=m) (l:=l) hr hl;have v:e8 r=[.arr (dM r.a_),.int .i64 r.gP]:=rfl;rw[v]at u⊢;unfold dh at u⊢;obtain⟨b,y⟩:∃b,cy l.length r=b:=⟨_,rfl⟩;rw[y]at u⊢;refine Cl.ao rfl Tryz.func177 rfl rfl rfl ?_;exact af
def Oq{m:Md}{l:List (Int×Int)}{x:kU}(hv:bH m.ak m.tables=true)(hm:bt m)(hx:iC x)(hl:l.length<=100000):Cl ai 149 [.t (.agg (dh m l)),.t (.agg (qI x))] [] (.t (.bool (kW m l.length x))) []:=by
 rw[<- Ko];obtain⟨D,H,U⟩:=x;have e1:qI ⟨D,H,U⟩=[.arr (iS D),.arr (iz H),.arr (iA U)]:=rfl;have hD:D.length<=17592186044416:=hx.delta;have hH:H.length<=17592186044416:=hx.hold;have al:∀r∈H,r.a_.length<=17592186044416:=hx.sL;have hU:U.length<=17592186044416:=hx.bZ;have an:∀u∈U,u.cell<=9223372036854775807:=hx.cell;have ay:=sI D;have aI:=vD H;have aR:=zg U;have aL:=jy l;have kh:=NV (C:=H) (p:=fun r=>!cy l.length r) (c1:=.tp (dh m l)) (by omega) (fun r hr=>Oo (by have:=al r hr;omega) hl);have ku:=fun(u:cD) (J:u∈U)=>Om (l:=l) hv hm (an u J);obtain⟨hb,ad⟩:∃b,(H.any fun r=>!cy l.length r)=b:=⟨_,rfl⟩;rw[ad]at kh;have ab:H.all (cy l.length)=!hb:=by rw[<- ad];exact n7 _ _
 obtain⟨Y,hY⟩:∃Y,(decide (H.length<=8)&&(decide (U.length<=32)&&H.all (cy l.length)))=Y:=⟨_,rfl⟩;have e0:yR m l.length ⟨D,H,U⟩=(aY (mT l.length D) 0 (D.drop 0)&&(aY (mU m U) 0 (U.drop 0)&&Y)):=by rw[<- hY];rfl
 rw[e0,e1];obtain⟨JC,au⟩:∃JC,dh m l=JC:=⟨_,rfl⟩;unfold dh at kh ku⊢;refine Cl.ao rfl Tryz.func149 rfl rfl rfl ?_;refine ar ?_;refine aC.ind (fun q:Nat=>[(5,.t (.int .i64 (dc bD.cell D q))),(13,.t (.int .i64 (q:Int)))]) (fun q=>q<=D.length/\aY (mT l.length D) 0 (D.drop 0)=aY (mT l.length D) q (D.drop q)) (fun q=>D.length - q) 0 rfl ⟨by omega,rfl⟩ (fun q V=>?_);obtain⟨h1,h2⟩:=V;rw[h2];rcases Nat.lt_or_ge q D.length with h3|h3
 ·
  obtain⟨t,ht⟩:=am h3;have hc:=qM ht;have kf:=vK t.add (m:=1000000000) (.inr (.inl rfl));have v:=gz (p:=mT l.length D) ht;have y:=gA (p:=mT l.length D) ht;have I:dc bD.cell D (q+1)=t.cell:=by simp only[dc,ht]
  have z:mT l.length D q t=true↔dc bD.cell D q <t.cell/\t.cell <l.length/\t.add≠0/\cE t.add 1000000000=true:=by
   unfold mT;simp only[Bool.and_eq_true,Bool.not_eq_true',decide_eq_true_eq,decide_eq_false_iff_not,ne_eq]
  rw[z]at v y;obtain⟨p,hp⟩:∃p,dc bD.cell D q=p:=⟨_,rfl⟩;rw[hp]at v y⊢;obtain⟨bf,G⟩:∃b,cE t.add 1000000000=b:=⟨_,rfl⟩;rw[G]at kf v y
  cases bf with
  |false=>
   rw[v (fun h=>by cases h.2.2.2)];exact af
  |true=>
   repeat'(first
|(with_reducible first|apply ac.seq|apply ac.block)
|((with_reducible apply ac.text);(try case hm=>exact rfl))
|(with_reducible first|apply ac.skip|apply ac.ret|apply az|apply aV|apply bq)
|((with_reducible apply ac.aA);(case hc=>exact rfl))
|((with_reducible apply ac.aH);(case hc=>exact rfl))
|((with_reducible apply aa.aE);(case hp=>exact aj))
|((with_reducible apply aa.bc)<;>intro V)
|((with_reducible apply aa.bg)<;>intro V)
|(with_reducible first|apply aa.ap|apply aa.bj)
|((with_reducible apply aa.gf);(case hW=>exact rfl))
|((with_reducible apply aa.aD);(case hW=>exact rfl);(case hx=>first
|(exact aq kf)
|exact ah))
|((with_reducible apply aa.u0);(case hx=>exact ah))
|fail)
   all_goals first
    |exact aZ (.inr rfl) rfl (by rw[v (fun h=>by obtain⟨_,_,_,_⟩:=h;omega)];rfl)
    |exact⟨q+1,by rw[I];rfl,rfl,⟨by omega,y ⟨by omega,by omega,by omega,rfl⟩⟩,by omega⟩
 ·
  rw[eT h3,Bool.true_and];refine ar ?_;refine aC.ind (fun q:Nat=>[(5,.t (.int .i64 (dc cD.cell U q))),(46,.t (.int .i64 (q:Int)))]) (fun q=>q<=U.length/\aY (mU m U) 0 (U.drop 0)=aY (mU m U) q (U.drop q)) (fun q=>U.length - q) 0 rfl ⟨by omega,rfl⟩ (fun q V=>?_);obtain⟨g1,g2⟩:=V;rw[g2];rcases Nat.lt_or_ge q U.length with g3|g3
  ·
   obtain⟨u,J⟩:=am g3;have aw:=sJ J;have ag:=ku u (List.mem_of_getElem? J);have v:=gz (p:=mU m U) J;have y:=gA (p:=mU m U) J;have I:dc cD.cell U (q+1)=u.cell:=by simp only[dc,J]
   have z:mU m U q u=true↔dc cD.cell U q <u.cell/\nS m u=true:=by
    unfold mU;simp only[Bool.and_eq_true,decide_eq_true_eq]
   rw[z]at v y;obtain⟨p,hp⟩:∃p,dc cD.cell U q=p:=⟨_,rfl⟩;rw[hp]at v y⊢;obtain⟨bf,G⟩:∃b,nS m u=b:=⟨_,rfl⟩;rw[G]at ag v y
   cases bf with
   |false=>
    rw[v (fun h=>by cases h.2)];exact af
   |true=>
    repeat'(first
|(with_reducible first|apply ac.seq|apply ac.block)
|((with_reducible apply ac.text);(try case hm=>exact rfl))
|(with_reducible first|apply ac.skip|apply ac.ret|apply az|apply aV|apply bq)
|((with_reducible apply ac.aA);(case hc=>exact rfl))
|((with_reducible apply ac.aH);(case hc=>exact rfl))
|((with_reducible apply aa.aE);(case hp=>exact aj))
|((with_reducible apply aa.bc)<;>intro V)
|(with_reducible first|apply aa.ap|apply aa.bj)
|((with_reducible apply aa.gf);(case hW=>exact rfl))
|((with_reducible apply aa.aD);(case hW=>exact rfl);(case hx=>first
|(exact aq ag)
|exact ah))
|((with_reducible apply aa.u0);(case hx=>exact ah))
|fail)
    all_goals first
     |exact aZ (.inr rfl) rfl (by rw[v (fun h=>by obtain⟨_,_⟩:=h;omega)];rfl)
     |exact⟨q+1,by rw[I];rfl,rfl,⟨by omega,y ⟨by omega,rfl⟩⟩,by omega⟩
  ·
   rw[eT g3,Bool.true_and,<- hY,ab];by_cases h8:H.length<=8
   ·
    rw[decide_eq_true h8,Bool.true_and];by_cases Z:U.length<=32
    ·
     rw[decide_eq_true Z,Bool.true_and]
     cases hb with
     |true=>
      exact af
     |false=>
      exact af
    ·
     rw[decide_eq_false Z,Bool.false_and];exact af
   ·
    rw[decide_eq_false h8,Bool.false_and];exact af
end Go.Proofs.YtjolgbkkocjpgaaGreatDoor
