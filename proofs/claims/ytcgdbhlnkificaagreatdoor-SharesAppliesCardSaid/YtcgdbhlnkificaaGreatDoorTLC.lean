/- The code's models,part by part,as contracts:. No condition. -/
import Derived.Test.YtcgdbhlnkificaaGreatDoorTLB
import Derived.Test.YtcgdbhlnkificaaGreatDoorTM
import Derived.Test.YtcgdbhlnkificaaGreatDoorTP
import Derived.Test.YtcgdbhlnkificaaGreatDoorTNC
import Derived.Test.YtcgdbhlnkificaaGreatDoorTNB
set_option linter.all false
namespace Go.Proofs.YtcgdbhlnkificaaGreatDoor
open Go.RowKit
set_option maxRecDepth 100000
set_option maxHeartbeats 16000000
def LC{N:List ByteArray}{q:Nat}{s:ByteArray}(h:N[q]?=some s):kZ (N.take q)++[.str s]=kZ (N.take (q+1)):=by unfold kZ;rw[List.take_add_one,h];simp
def DI{N:List ByteArray}(hl:N.length<=140737488351232):Cl aj 99 [.t (.arr (cq N))] [] (.t (.bool (gH N))) []:=by
 have U:=ny N;have G:gH N=aK (ju N) 0 (N.drop 0):=rfl;rw[G];refine Cl.ap rfl Tryz.func99 rfl rfl rfl ?_;refine aq ?_;refine az.c8 (fun q:Nat=>[(9,.t (.int .i64 (q:Int)))]) (fun q=>[.map false (kZ (N.take q)) (dV q)]) (fun q=>q<=N.length/\aK (ju N) 0 (N.drop 0)=aK (ju N) q (N.drop q)) (fun q=>N.length - q) 0 rfl rfl ⟨by omega,rfl⟩ (fun q J=>?_);obtain⟨h1,h2⟩:=J;rw[h2];rcases Nat.lt_or_ge q N.length with h3|h3
 ·
  obtain⟨s,hs⟩:=am h3;have V:=D3 hs;have z:=Dx s;have v:=B5 hs;have D:=B6 hs;have hks:=LC hs;have hvs:=w_ q
  cases y:gq s with
  |false=>
   rw[y]at z;rw[v (fun h=>by rw[y]at h;cases h.1)];exact ah
  |true=>
   rw[y]at z
   cases ha:(N.take q).any fun u=>decide (u=s)with
   |true=>
    obtain⟨j,hf,I⟩:=yx ha;have hz:=tX (n:=q) (j:=j) (by rw[List.length_take]at I;omega);rw[v (fun h=>by rw[ha]at h;cases h.2)]
    repeat'(first
|((with_reducible apply aa.aF);(case hp=>exact ak))
|(refine aw ?_)
|((with_reducible apply aa.av);(case hW=>exact rfl);(case hx=>first
|((with_reducible apply af.oC);(case hm|hk|ho=>exact rfl);(case hf=>exact hf);(case hz=>exact hz))
|exact ae))
|((with_reducible apply aa.u0);(case hx=>first
|(exact ai z)
|exact ae))
|fail)
    exact⟨.inr rfl,rfl⟩
   |false=>
    have hf:=yw ha
    repeat'(first
|((with_reducible apply aa.aF);(case hp=>exact ak))
|(refine aw ?_)
|((with_reducible apply aa.av);(case hW=>exact rfl);(case hx=>first
|((with_reducible apply af.lk);(case hm|hk|ho=>exact rfl);(case hf=>exact hf);(case hz=>exact rfl))
|exact ae))
|((with_reducible apply aa.u0);(case hx=>first
|((with_reducible apply af.pT);(case hs=>exact fun _=>rfl);(case hm|ha|hk|hd|hy|hb=>exact rfl);(case hf=>exact hf);(case hks=>exact hks);(case hvs=>exact hvs);(case hfr=>exact leq))
|(exact ai z)
|exact ae))
|fail)
    exact⟨q+1,rfl,rfl,⟨by omega,D y ha⟩,by omega⟩
 ·
  rw[cL h3];exact ah
def de(m:Md)(l:List (Int×Int)):List AV:=[aD m.ao,.arr (bC m.tables),.arr (cq m.bH),.arr (fk m.cons),.arr (fv m.ops),.arr (eg m.ax),.arr (c7 m.aG),.arr (bO l)]
def C_{m:Md}{l:List (Int×Int)}{r:Rw}(hr:r.bt.length<=140737488351232)(hl:l.length<=100000):Cl aj 141 [.t (.agg (de m l)),.t (.agg (fa r))] [] (.t (.bool (cI l.length r))) []:=by
 obtain⟨T,B⟩:=r;have V:fa ⟨T,B⟩=[.arr (dU T),.int .i64 B]:=rfl;have Z:cI l.length ⟨T,B⟩=(aK (oT l.length T) 0 (T.drop 0)&&cA B 1000000000):=by unfold cI;rw[<- PS];rfl
 rw[V,Z];unfold de;have hr:T.length<=140737488351232:=hr;have hT:=nG T;have hL:=lQ l;have kB:=vG B (m:=1000000000) (.inr (.inl rfl));refine Cl.ap rfl Tryz.func141 rfl rfl rfl ?_;refine aq ?_;refine az.ind (fun q:Nat=>[(5,.t (.int .i64 (aS Tm.cell T q))),(11,.t (.int .i64 (q:Int)))]) (fun q=>q<=T.length/\aK (oT l.length T) 0 (T.drop 0)=aK (oT l.length T) q (T.drop q)) (fun q=>T.length - q) 0 rfl ⟨by omega,rfl⟩ (fun q I=>?_);obtain⟨h1,h2⟩:=I;rw[h2];rcases Nat.lt_or_ge q T.length with h3|h3
 ·
  obtain⟨t,z⟩:=am h3;have hc:=oU z;have J:=vG t.bZ (m:=1000) (.inl rfl);have u:=dl (p:=oT l.length T) z;have v:=dm (p:=oT l.length T) z;have G:aS Tm.cell T (q+1)=t.cell:=by simp only[aS,z]
  have y:oT l.length T q t=true↔aS Tm.cell T q <t.cell/\t.cell <l.length/\t.bZ≠0/\cA t.bZ 1000=true:=by
   unfold oT;simp only[Bool.and_eq_true,Bool.not_eq_true',decide_eq_true_eq,decide_eq_false_iff_not,ne_eq]
  rw[y]at u v;obtain⟨p,hp⟩:∃p,aS Tm.cell T q=p:=⟨_,rfl⟩;rw[hp]at u v⊢;obtain⟨U,D⟩:∃b,cA t.bZ 1000=b:=⟨_,rfl⟩;rw[D]at J u v
  cases U with
  |false=>
   rw[u (fun h=>by cases h.2.2.2)];exact ah
  |true=>
   repeat'(first
|((with_reducible apply aa.aF);(case hp=>exact ak))
|((with_reducible apply aa.aX)<;>intro I)
|((with_reducible apply aa.bi)<;>intro I)
|(refine aw ?_)
|((with_reducible apply aa.av);(case hW=>exact rfl);(case hx=>first
|(exact ai J)
|exact ae))
|((with_reducible apply aa.u0);(case hx=>exact ae))
|fail)
   all_goals first
    |exact ba (.inr rfl) rfl (by rw[u (fun h=>by obtain⟨_,_,_,_⟩:=h;omega)];rfl)
    |exact⟨q+1,by rw[G];rfl,rfl,⟨by omega,v ⟨by omega,by omega,by omega,rfl⟩⟩,by omega⟩
 ·
  rw[cL h3];exact ah
def I2{A B:List Tm}(U:A.length<=140737488351232)(V:B.length<=140737488351232):Cl aj 176 [.t (.arr (dU A)),.t (.arr (dU B))] [] (.t (.bool (decide (A=B)))) []:=by
 refine Cl.ap rfl Tryz.func176 rfl rfl rfl ?_;have G:=nG A;have I:=nG B;by_cases D:A.length=B.length
 ·
  refine aq ?_;refine az.ind (fun q:Nat=>[(13,.t (.int .i64 (q:Int)))]) (fun q=>q<=A.length/\decide (A=B)=decide (A.drop q=B.drop q)) (fun q=>A.length - q) 0 rfl ⟨by omega,rfl⟩ (fun q J=>?_);obtain⟨h1,h2⟩:=J;rw[h2];rcases Nat.lt_or_ge q A.length with h3|h3
  ·
   obtain⟨x,hx⟩:=am h3;obtain⟨y,hy⟩:=am (xs:=B) (k:=q) (by omega);have Z:=oU hx;have hd:=oU hy;by_cases z:x=y
   ·
    have u:decide (A.drop q=B.drop q)=decide (A.drop (q+1)=B.drop (q+1)):=by rw[bG hx,bG hy,z];simp
    have v:gI aj.P 20 149 [.int .i64 x.cell,.int .i64 x.bZ] [.int .i64 y.cell,.int .i64 y.bZ]=some true:=by rw[wZ,z];simp
    repeat'(first
|((with_reducible apply aa.aF);(case hp=>exact ak))
|(refine aw ?_)
|((with_reducible apply aa.u0);(case hx=>first
|((with_reducible apply af.rn);(case hx|hy=>exact rfl);(case hg=>exact Rd);(case ht=>exact rfl);(case hr=>exact v))
|exact ae))
|fail)
    exact⟨q+1,rfl,rfl,⟨by omega,u⟩,by omega⟩
   ·
    have u:decide (A.drop q=B.drop q)=false:=by rw[bG hx,bG hy];simp[z]
    have v:gI aj.P 20 149 [.int .i64 x.cell,.int .i64 x.bZ] [.int .i64 y.cell,.int .i64 y.bZ]=some false:=by
     rw[wZ];obtain⟨x1,x2⟩:=x;obtain⟨y1,y2⟩:=y;simp at z⊢;exact z
    rw[u]
    repeat'(first
|((with_reducible apply aa.aF);(case hp=>exact ak))
|(refine aw ?_)
|((with_reducible apply aa.u0);(case hx=>first
|((with_reducible apply af.rn);(case hx|hy=>exact rfl);(case hg=>exact Rd);(case ht=>exact rfl);(case hr=>exact v))
|exact ae))
|fail)
    exact⟨.inr rfl,rfl⟩
  ·
   have u:decide (A.drop q=B.drop q)=true:=by rw[eY h3,eY (l:=B) (by omega)];rfl
   rw[u];exact ah
 ·
  have u:decide (A=B)=false:=by simp;intro h;exact D (by rw[h])
  rw[u];exact ah
def DR{r:Rw}{c f b:Int}(hr:r.bt.length<=140737488351232):Cl aj 143 [.t (.agg (fa r)),.t (.int .i64 c),.t (.int .i64 f),.t (.int .i64 b)] [] (.t (.bool (decide (r=⟨[⟨c,f⟩],b⟩)))) []:=by
 obtain⟨T,B⟩:=r;have v:fa ⟨T,B⟩=[.arr (dU T),.int .i64 B]:=rfl;have hr:T.length<=140737488351232:=hr;rw[v];have u:=I2 (A:=T) (B:=[⟨c,f⟩]) hr (by simp);have y:dU [⟨c,f⟩]=[[.int .i64 c,.int .i64 f]]:=rfl;rw[y]at u;obtain⟨d,hd⟩:∃d,decide (T=[(⟨c,f⟩:Tm)])=d:=⟨_,rfl⟩
 have z:decide ((⟨T,B⟩:Rw)=⟨[⟨c,f⟩],b⟩)=(d&&decide (B=b)):=by
  rw[<- hd,Bool.eq_iff_iff];simp
 rw[z];rw[hd]at u;refine Cl.ap rfl Tryz.func143 rfl rfl rfl ?_
 cases d with
 |true=>
  repeat'(first
|((with_reducible apply aa.bi)<;>intro D)
|(refine aw ?_)
|((with_reducible apply aa.av);(case hW=>exact rfl);(case hx=>exact ae))
|((with_reducible apply aa.u0);(case hx=>first
|((with_reducible apply af.jo (es:=[[.int .i64 c,.int .i64 f]]));(case hw=>exact rfl);(case ho=>kernel_rfl);(case h=>kernel_rfl))
|(exact ai u)
|exact ae))
|fail)
  all_goals(refine ba (.inr rfl) rfl ?_;first|(simp_all;done)|(simp_all;omega))
 |false=>
  repeat'(first
|(refine aw ?_)
|((with_reducible apply aa.u0);(case hx=>first
|((with_reducible apply af.jo (es:=[[.int .i64 c,.int .i64 f]]));(case hw=>exact rfl);(case ho=>kernel_rfl);(case h=>kernel_rfl))
|(exact ai u)
|exact ae))
|fail)
  exact⟨.inr rfl,rfl⟩
def Ks{m:Md}{l:List (Int×Int)}{c:Cn}{t:Tb}(hv:bJ m.ao m.tables=true)(hm:bx m)(ht:t∈m.tables):Cl aj 175 [.t (.agg (gC t)),.t (.tp (lg c)),.t (.tp (de m l))] [] (.t (.bool (gV m.ao c t))) []:=by
 obtain⟨kd,J,⟨T,G⟩,y,sz⟩:=c;obtain⟨k,ht⟩:=List.mem_iff_getElem?.1 ht;have e1:lg ⟨kd,J,⟨T,G⟩,y,sz⟩=[.int .i64 kd,.int .i64 J,.arr (dU T),.int .i64 G,.int .i64 y,.int .i64 sz]:=rfl;have e2:gC t=[.str t.name,.int .i64 t.kind,aD t.au,.int .i64 t.lo,.int .i64 t.hi,.int .i64 t.first]:=rfl;rw[e1,e2];unfold de;obtain⟨c1,c2,I⟩:=lD hv ht;have al:=aW t.au;have an:=aW m.ao;have ab:=kK hv;obtain⟨C,U⟩:∃C:Cn,(⟨kd,J,⟨T,G⟩,y,sz⟩:Cn)=C:=⟨_,rfl⟩;have V:C.first=y:=by rw[<- U]
 have Z:C.size=sz:=by rw[<- U]
 rw[U];refine Cl.ap rfl Tryz.func175 rfl rfl rfl ?_;by_cases hl:t.au.length=2
 ·
  obtain⟨a,b,u⟩:=Dv hl;rw[u]at I;simp only[List.all_cons,Bool.and_eq_true]at I;have z:=I.1;simp only[cr,Bool.and_eq_true,decide_eq_true_eq]at z;obtain⟨g3,g4⟩:=z;obtain⟨s,D⟩:=am (xs:=m.ao) (k:=a.toNat) (by omega);have ax:=bg D
  have hP:gV m.ao C t=true↔t.kind=0/\a=b/\t.first=y/\s=sz:=by
   have ea:t.au.getD 0 0=a:=by rw[u];rfl
   have eb:t.au.getD 1 0=b:=by rw[u];rfl
   rw[ve,ea,eb,V,Z,fL D];simp[hl]
  have ad:(aL t.au)[0]?=some [.int .i64 a]:=bg (by rw[u];rfl);have ag:(aL t.au)[1]?=some [.int .i64 b]:=bg (by rw[u];rfl);by_cases v:t.kind=0/\a=b/\t.first=y/\s=sz
  ·
   rw[hP.2 v];obtain⟨k1,k2,k3,k4⟩:=v;exact ah
  ·
   have hf:gV m.ao C t=false:=by rw[<- Bool.not_eq_true,hP];exact v
   rw[hf]
   repeat'(first
|(refine a8 ?_)
|((with_reducible apply aa.aX)<;>intro hq)
|((with_reducible apply aa.bi)<;>intro hq)
|(refine aw ?_)
|((with_reducible apply aa.av);(case hW=>exact rfl);(case hx=>exact ae))
|((with_reducible apply aa.u0);(case hx=>exact ae))
|fail)
   all_goals first
    |exact⟨.inr rfl,rfl⟩
    |(exfalso;apply v;refine⟨?_,?_,?_,?_⟩<;>first|assumption|omega)
 ·
  have hf:gV m.ao C t=false:=by rw[<- Bool.not_eq_true,ve];exact fun h=>hl h.2.1
  rw[hf];exact ah
def Kt{m:Md}{l:List (Int×Int)}{c:Cn}(hm:bx m)(hv:bJ m.ao m.tables=true)(hc:c.row.bt.length<=140737488351232):Cl aj 142 [.t (.agg (de m l)),.t (.agg (lg c))] [] (.t (.bool (jA m c))) []:=by
 have D:=Im (C:=m.tables) (p:=gV m.ao c) (c1:=.tp (lg c)) (c2:=.tp (de m l)) (by have:=hm.tables;omega) (fun t ht=>Ks hv hm ht);obtain⟨g,J⟩:∃g,m.tables.any (gV m.ao c)=g:=⟨_,rfl⟩;have V:jA m c=((decide (c.row.bt.length=0)&&decide (c.row.jZ=0))&&g):=by unfold jA;rw[J]
 rw[J]at D;rw[V];obtain⟨U,I,⟨T,u⟩,G,sz⟩:=c;have hT:=nG T;have hc:T.length<=140737488351232:=hc;have Z:lg ⟨U,I,⟨T,u⟩,G,sz⟩=[.int .i64 U,.int .i64 I,.arr (dU T),.int .i64 u,.int .i64 G,.int .i64 sz]:=rfl;rw[Z]at D⊢;unfold de at D⊢;refine Cl.ap rfl Tryz.func142 rfl rfl rfl ?_;by_cases v:T.length=0/\u=0
 ·
  obtain⟨y,rfl⟩:=v;rw[decide_eq_true y];exact ah
 ·
  have z:(decide (T.length=0)&&decide (u=0))=false:=by
   rw[<- Bool.not_eq_true,Bool.and_eq_true,decide_eq_true_eq,decide_eq_true_eq];exact v
  rw[z]
  repeat'(first
|((with_reducible apply aa.c_);(case hp=>exact ak))
|((with_reducible apply aa.aX)<;>intro hq)
|(refine aw ?_)
|((with_reducible apply aa.av);(case hW=>exact rfl);(case hx=>exact ae))
|((with_reducible apply aa.u0);(case hx=>exact ae))
|fail)
  all_goals first
   |exact⟨.inr rfl,rfl⟩
   |(exfalso;apply v;constructor <;>omega)
set_option maxHeartbeats 32000000
def Qi{u:cw}{t:Tb}(h:t.kind=2\/t.kind=3):nJ u t=((decide (u.kind=0)||decide (u.kind=1))&&decide (u.value=0)):=by
 unfold nJ oJ;rw[if_pos (by rcases h with h|h <;>simp[h])]
def Qh{u:cw}{t:Tb}(h:¬(t.kind=2\/t.kind=3)):nJ u t=(decide (u.kind=2)&&(decide (t.lo<=u.value)&&decide (u.value<=t.hi))):=by
 unfold nJ oJ;rw[if_neg];rw[Bool.or_eq_true,decide_eq_true_eq,decide_eq_true_eq];exact h
def Kx{m:Md}{l:List (Int×Int)}{u:cw}(hv:bJ m.ao m.tables=true)(hm:bx m)(hc:u.cell<=9223372036854775807):Cl aj 178 [.t (.agg (de m l)),.t (.agg (tY u))] [] (.t (.bool (oX m u))) []:=by
 have y:=ID (s:=false) (c:=u.cell) hv hc;have G:tY u=[.int .i64 u.kind,.int .i64 u.cell,.int .i64 u.value]:=rfl;rw[G];unfold de oX;have U:=fT m.tables
 cases z:fe m.ao m.tables false u.cell with
 |none=>
  rw[z]at y;have y:Cl aj 192 [.t (aD m.ao),.t (.arr (bC m.tables)),.t (.bool false),.t (.int .i64 u.cell)] [] (.aN [.t (.int .i64 0),.nil,.t (.bool false)]) []:=y;refine Cl.ap rfl Tryz.func178 rfl rfl rfl ?_;exact ah
 |some Z=>
  obtain⟨i,t⟩:=Z;rw[z]at y;have y:Cl aj 192 [.t (aD m.ao),.t (.arr (bC m.tables)),.t (.bool false),.t (.int .i64 u.cell)] [] (.aN [.t (.int .i64 (i:Int)),.ls 0,.t (.bool true)]) [.row false false 1 (aL (pV m.ao t.au (u.cell - t.first)))]:=y
  have D:m.tables[i]?=some t:=by
   unfold fe at z;rw[if_pos hv]at z;have:=(wY z).2.1;rwa[Nat.sub_zero]at this
  have V:=fB D;show Cl aj _ _ [] (.t (.bool (nJ u t))) []
  refine Cl.ap rfl Tryz.func178 rfl rfl rfl ?_;by_cases v:t.kind=2\/t.kind=3
  ·
   rw[Qi v];rcases v with v|v
   ·
    exact ah
   ·
    exact ah
  ·
   rw[Qh v];have I:¬t.kind=2:=fun h=>v (.inl h);have J:¬t.kind=3:=fun h=>v (.inr h);exact ah
def IR(x:k8):qG x=[.arr (iV x.delta),.arr (iK x.hold),.arr (iO x.b7)]:=rfl
def Kq{m:Md}{l:List (Int×Int)}{r:Rw}(hr:r.bt.length<=140737488351232)(hl:l.length<=100000):Cl aj 180 [.t (.agg (fa r)),.t (.tp (de m l))] [] (.t (.bool (!cI l.length r))) []:=by
 have u:=C_ (m:=m) (l:=l) hr hl;have v:fa r=[.arr (dU r.bt),.int .i64 r.jZ]:=rfl;rw[v]at u⊢;unfold de at u⊢;obtain⟨b,y⟩:∃b,cI l.length r=b:=⟨_,rfl⟩;rw[y]at u⊢;refine Cl.ap rfl Tryz.func180 rfl rfl rfl ?_;exact ah
def Kr{m:Md}{l:List (Int×Int)}{x:k8}(hv:bJ m.ao m.tables=true)(hm:bx m)(hx:jj x)(hl:l.length<=100000):Cl aj 147 [.t (.agg (de m l)),.t (.agg (qG x))] [] (.t (.bool (ll m l.length x))) []:=by
 rw[<- IV];obtain⟨D,H,U⟩:=x;have e1:qG ⟨D,H,U⟩=[.arr (iV D),.arr (iK H),.arr (iO U)]:=rfl;have hD:D.length<=17592186044416:=hx.delta;have hH:H.length<=17592186044416:=hx.hold;have al:∀r∈H,r.bt.length<=17592186044416:=hx.sV;have hU:U.length<=17592186044416:=hx.b7;have an:∀u∈U,u.cell<=9223372036854775807:=hx.cell;have aA:=uG D;have aB:=wi H;have aM:=AL U;have aG:=lQ l;have kh:=Il (C:=H) (p:=fun r=>!cI l.length r) (c1:=.tp (de m l)) (by omega) (fun r hr=>Kq (by have:=al r hr;omega) hl);have ku:=fun(u:cw) (J:u∈U)=>Kx (l:=l) hv hm (an u J);obtain⟨hb,ad⟩:∃b,(H.any fun r=>!cI l.length r)=b:=⟨_,rfl⟩;rw[ad]at kh;have ab:H.all (cI l.length)=!hb:=by rw[<- ad];exact qv _ _
 obtain⟨Y,hY⟩:∃Y,(decide (H.length<=8)&&(decide (U.length<=32)&&H.all (cI l.length)))=Y:=⟨_,rfl⟩;have e0:xT m l.length ⟨D,H,U⟩=(aK (mY l.length D) 0 (D.drop 0)&&(aK (nI m U) 0 (U.drop 0)&&Y)):=by rw[<- hY];rfl
 rw[e0,e1];obtain⟨JC,au⟩:∃JC,de m l=JC:=⟨_,rfl⟩;unfold de at kh ku⊢;refine Cl.ap rfl Tryz.func147 rfl rfl rfl ?_;refine aq ?_;refine az.ind (fun q:Nat=>[(5,.t (.int .i64 (aS bP.cell D q))),(13,.t (.int .i64 (q:Int)))]) (fun q=>q<=D.length/\aK (mY l.length D) 0 (D.drop 0)=aK (mY l.length D) q (D.drop q)) (fun q=>D.length - q) 0 rfl ⟨by omega,rfl⟩ (fun q V=>?_);obtain⟨h1,h2⟩:=V;rw[h2];rcases Nat.lt_or_ge q D.length with h3|h3
 ·
  obtain⟨t,ht⟩:=am h3;have hc:=su ht;have kf:=vG t.add (m:=1000000000) (.inr (.inl rfl));have v:=dl (p:=mY l.length D) ht;have y:=dm (p:=mY l.length D) ht;have I:aS bP.cell D (q+1)=t.cell:=by simp only[aS,ht]
  have z:mY l.length D q t=true↔aS bP.cell D q <t.cell/\t.cell <l.length/\t.add≠0/\cA t.add 1000000000=true:=by
   unfold mY;simp only[Bool.and_eq_true,Bool.not_eq_true',decide_eq_true_eq,decide_eq_false_iff_not,ne_eq]
  rw[z]at v y;obtain⟨p,hp⟩:∃p,aS bP.cell D q=p:=⟨_,rfl⟩;rw[hp]at v y⊢;obtain⟨bf,G⟩:∃b,cA t.add 1000000000=b:=⟨_,rfl⟩;rw[G]at kf v y
  cases bf with
  |false=>
   rw[v (fun h=>by cases h.2.2.2)];exact ah
  |true=>
   repeat'(first
|((with_reducible apply aa.aF);(case hp=>exact ak))
|((with_reducible apply aa.aX)<;>intro V)
|((with_reducible apply aa.bi)<;>intro V)
|(refine aw ?_)
|((with_reducible apply aa.av);(case hW=>exact rfl);(case hx=>first
|(exact ai kf)
|exact ae))
|((with_reducible apply aa.u0);(case hx=>exact ae))
|fail)
   all_goals first
    |exact ba (.inr rfl) rfl (by rw[v (fun h=>by obtain⟨_,_,_,_⟩:=h;omega)];rfl)
    |exact⟨q+1,by rw[I];rfl,rfl,⟨by omega,y ⟨by omega,by omega,by omega,rfl⟩⟩,by omega⟩
 ·
  rw[cL h3,Bool.true_and];refine aq ?_;refine az.ind (fun q:Nat=>[(5,.t (.int .i64 (aS cw.cell U q))),(46,.t (.int .i64 (q:Int)))]) (fun q=>q<=U.length/\aK (nI m U) 0 (U.drop 0)=aK (nI m U) q (U.drop q)) (fun q=>U.length - q) 0 rfl ⟨by omega,rfl⟩ (fun q V=>?_);obtain⟨g1,g2⟩:=V;rw[g2];rcases Nat.lt_or_ge q U.length with g3|g3
  ·
   obtain⟨u,J⟩:=am g3;have ax:=tZ J;have ag:=ku u (List.mem_of_getElem? J);have v:=dl (p:=nI m U) J;have y:=dm (p:=nI m U) J;have I:aS cw.cell U (q+1)=u.cell:=by simp only[aS,J]
   have z:nI m U q u=true↔aS cw.cell U q <u.cell/\oX m u=true:=by
    unfold nI;simp only[Bool.and_eq_true,decide_eq_true_eq]
   rw[z]at v y;obtain⟨p,hp⟩:∃p,aS cw.cell U q=p:=⟨_,rfl⟩;rw[hp]at v y⊢;obtain⟨bf,G⟩:∃b,oX m u=b:=⟨_,rfl⟩;rw[G]at ag v y
   cases bf with
   |false=>
    rw[v (fun h=>by cases h.2)];exact ah
   |true=>
    repeat'(first
|((with_reducible apply aa.aF);(case hp=>exact ak))
|((with_reducible apply aa.aX)<;>intro V)
|(refine aw ?_)
|((with_reducible apply aa.av);(case hW=>exact rfl);(case hx=>first
|(exact ai ag)
|exact ae))
|((with_reducible apply aa.u0);(case hx=>exact ae))
|fail)
    all_goals first
     |exact ba (.inr rfl) rfl (by rw[v (fun h=>by obtain⟨_,_⟩:=h;omega)];rfl)
     |exact⟨q+1,by rw[I];rfl,rfl,⟨by omega,y ⟨by omega,rfl⟩⟩,by omega⟩
  ·
   rw[cL g3,Bool.true_and,<- hY,ab];by_cases h8:H.length<=8
   ·
    rw[decide_eq_true h8,Bool.true_and];by_cases Z:U.length<=32
    ·
     rw[decide_eq_true Z,Bool.true_and]
     cases hb with
     |true=>
      exact ah
     |false=>
      exact ah
    ·
     rw[decide_eq_false Z,Bool.false_and];exact ah
   ·
    rw[decide_eq_false h8,Bool.false_and];exact ah
end Go.Proofs.YtcgdbhlnkificaaGreatDoor
