/- The code's models,part by part,as contracts:. No condition. -/
import Derived.Test.YtjolgbkkocjpgaaGreatDoorTLB
import Derived.Test.YtjolgbkkocjpgaaGreatDoorTM
import Derived.Test.YtjolgbkkocjpgaaGreatDoorTP
import Derived.Test.YtjolgbkkocjpgaaGreatDoorTNC
import Derived.Test.YtjolgbkkocjpgaaGreatDoorTNB
set_option linter.all false
namespace Go.Proofs.YtjolgbkkocjpgaaGreatDoor
open Go.RowKit
set_option maxRecDepth 100000
set_option maxHeartbeats 16000000
def MV{N:List ByteArray}{q:Nat}{s:ByteArray}(h:N[q]?=some s):lc (N.take q)++[.str s]=lc (N.take (q+1)):=by unfold lc;rw[List.take_add_one,h];simp
def Eo{N:List ByteArray}(hl:N.length<=140737488351232):Cl ah 93 [.t (.arr (bX N))] [] (.t (.bool (gP N))) []:=by
 have U:=nM N;have G:gP N=aL (jC N) 0 (N.drop 0):=rfl;rw[G];refine Cl.aq rfl Tryz.func93 rfl rfl rfl ?_;refine ak ?_;refine ax.cA (fun q:Nat=>[(9,.t (.int .i64 (q:Int)))]) (fun q=>[.map false (lc (N.take q)) (eh q)]) (fun q=>q<=N.length/\aL (jC N) 0 (N.drop 0)=aL (jC N) q (N.drop q)) (fun q=>N.length - q) 0 rfl rfl ⟨by omega,rfl⟩ (fun q J=>?_);obtain⟨h1,h2⟩:=J;rw[h2];rcases Nat.lt_or_ge q N.length with h3|h3
 ·
  obtain⟨s,hs⟩:=aj h3;have V:=EP hs;have z:=Eb s;have v:=CQ hs;have D:=CR hs;have hks:=MV hs;have hvs:=x_ q
  cases y:gE s with
  |false=>
   rw[y]at z;rw[v (fun h=>by rw[y]at h;cases h.1)];exact ae
  |true=>
   rw[y]at z
   cases ha:(N.take q).any fun u=>decide (u=s)with
   |true=>
    obtain⟨j,hf,I⟩:=zz ha;have hz:=uH (n:=q) (j:=j) (by rw[List.length_take]at I;omega);rw[v (fun h=>by rw[ha]at h;cases h.2)]
    repeat'(first
|((with_reducible apply aa.aR);(case hp=>exact aA))
|(refine ar ?_)
|((with_reducible apply aa.aB);(case hW=>exact rfl);(case hx=>first
|((with_reducible apply ac.oQ);(case hm|hk|ho=>exact rfl);(case hf=>exact hf);(case hz=>exact hz))
|exact af))
|((with_reducible apply aa.u0);(case hx=>first
|(exact ap z)
|exact af))
|fail)
    exact⟨.inr rfl,rfl⟩
   |false=>
    have hf:=zy ha
    repeat'(first
|((with_reducible apply aa.aR);(case hp=>exact aA))
|(refine ar ?_)
|((with_reducible apply aa.aB);(case hW=>exact rfl);(case hx=>first
|((with_reducible apply ac.lk);(case hm|hk|ho=>exact rfl);(case hf=>exact hf);(case hz=>exact rfl))
|exact af))
|((with_reducible apply aa.u0);(case hx=>first
|((with_reducible apply ac.qs);(case hs=>exact fun _=>rfl);(case hm|ha|hk|hd|hy|hb=>exact rfl);(case hf=>exact hf);(case hks=>exact hks);(case hvs=>exact hvs);(case hfr=>exact leq))
|(exact ap z)
|exact af))
|fail)
    exact⟨q+1,rfl,rfl,⟨by omega,D y ha⟩,by omega⟩
 ·
  rw[cU h3];exact ae
def dp(m:Md)(l:List (Int×Int)):List AV:=[ay m.ai,.arr (bq m.tables),.arr (bX m.bx),.arr (dc m.cons),.arr (dk m.ops),.arr (cK m.au),.arr (cu m.aG),.arr (bR l)]
def DO{m:Md}{l:List (Int×Int)}{r:Rw}(hr:r.a8.length<=140737488351232)(hl:l.length<=100000):Cl ah 143 [.t (.agg (dp m l)),.t (.agg (eU r))] [] (.t (.bool (cD l.length r))) []:=by
 obtain⟨T,B⟩:=r;have V:eU ⟨T,B⟩=[.arr (eg T),.int .i64 B]:=rfl;have Z:cD l.length ⟨T,B⟩=(aL (pf l.length T) 0 (T.drop 0)&&cH B 1000000000):=by unfold cD;rw[<- Q_];rfl
 rw[V,Z];unfold dp;have hr:T.length<=140737488351232:=hr;have hT:=mf T;have hL:=k7 l;have kB:=ww B (m:=1000000000) (.inr (.inl rfl));refine Cl.aq rfl Tryz.func143 rfl rfl rfl ?_;refine ak ?_;refine ax.ind (fun q:Nat=>[(5,.t (.int .i64 (aU Tm.cell T q))),(11,.t (.int .i64 (q:Int)))]) (fun q=>q<=T.length/\aL (pf l.length T) 0 (T.drop 0)=aL (pf l.length T) q (T.drop q)) (fun q=>T.length - q) 0 rfl ⟨by omega,rfl⟩ (fun q I=>?_);obtain⟨h1,h2⟩:=I;rw[h2];rcases Nat.lt_or_ge q T.length with h3|h3
 ·
  obtain⟨t,z⟩:=aj h3;have hc:=nj z;have J:=ww t.bU (m:=1000) (.inl rfl);have u:=dB (p:=pf l.length T) z;have v:=dC (p:=pf l.length T) z;have G:aU Tm.cell T (q+1)=t.cell:=by simp only[aU,z]
  have y:pf l.length T q t=true↔aU Tm.cell T q <t.cell/\t.cell <l.length/\t.bU≠0/\cH t.bU 1000=true:=by
   unfold pf;simp only[Bool.and_eq_true,Bool.not_eq_true',decide_eq_true_eq,decide_eq_false_iff_not,ne_eq]
  rw[y]at u v;obtain⟨p,hp⟩:∃p,aU Tm.cell T q=p:=⟨_,rfl⟩;rw[hp]at u v⊢;obtain⟨U,D⟩:∃b,cH t.bU 1000=b:=⟨_,rfl⟩;rw[D]at J u v
  cases U with
  |false=>
   rw[u (fun h=>by cases h.2.2.2)];exact ae
  |true=>
   repeat'(first
|((with_reducible apply aa.aR);(case hp=>exact aA))
|((with_reducible apply aa.aX)<;>intro I)
|((with_reducible apply aa.bi)<;>intro I)
|(refine ar ?_)
|((with_reducible apply aa.aB);(case hW=>exact rfl);(case hx=>first
|(exact ap J)
|exact af))
|((with_reducible apply aa.u0);(case hx=>exact af))
|fail)
   all_goals first
    |exact a_ (.inr rfl) rfl (by rw[u (fun h=>by obtain⟨_,_,_,_⟩:=h;omega)];rfl)
    |exact⟨q+1,by rw[G];rfl,rfl,⟨by omega,v ⟨by omega,by omega,by omega,rfl⟩⟩,by omega⟩
 ·
  rw[cU h3];exact ae
def Kb{A B:List Tm}(U:A.length<=140737488351232)(V:B.length<=140737488351232):Cl ah 173 [.t (.arr (eg A)),.t (.arr (eg B))] [] (.t (.bool (decide (A=B)))) []:=by
 refine Cl.aq rfl Tryz.func173 rfl rfl rfl ?_;have G:=mf A;have I:=mf B;by_cases D:A.length=B.length
 ·
  refine ak ?_;refine ax.ind (fun q:Nat=>[(13,.t (.int .i64 (q:Int)))]) (fun q=>q<=A.length/\decide (A=B)=decide (A.drop q=B.drop q)) (fun q=>A.length - q) 0 rfl ⟨by omega,rfl⟩ (fun q J=>?_);obtain⟨h1,h2⟩:=J;rw[h2];rcases Nat.lt_or_ge q A.length with h3|h3
  ·
   obtain⟨x,hx⟩:=aj h3;obtain⟨y,hy⟩:=aj (xs:=B) (k:=q) (by omega);have Z:=nj hx;have hd:=nj hy;by_cases z:x=y
   ·
    have u:decide (A.drop q=B.drop q)=decide (A.drop (q+1)=B.drop (q+1)):=by rw[bK hx,bK hy,z];simp
    have v:gy ah.P 20 90 [.int .i64 x.cell,.int .i64 x.bU] [.int .i64 y.cell,.int .i64 y.bU]=some true:=by rw[xV,z];simp
    repeat'(first
|((with_reducible apply aa.aR);(case hp=>exact aA))
|(refine ar ?_)
|((with_reducible apply aa.u0);(case hx=>first
|((with_reducible apply ac.qv);(case hx|hy=>exact rfl);(case hg=>exact xW);(case ht=>exact rfl);(case hr=>exact v))
|exact af))
|fail)
    exact⟨q+1,rfl,rfl,⟨by omega,u⟩,by omega⟩
   ·
    have u:decide (A.drop q=B.drop q)=false:=by rw[bK hx,bK hy];simp[z]
    have v:gy ah.P 20 90 [.int .i64 x.cell,.int .i64 x.bU] [.int .i64 y.cell,.int .i64 y.bU]=some false:=by
     rw[xV];obtain⟨x1,x2⟩:=x;obtain⟨y1,y2⟩:=y;simp at z⊢;exact z
    rw[u]
    repeat'(first
|((with_reducible apply aa.aR);(case hp=>exact aA))
|(refine ar ?_)
|((with_reducible apply aa.u0);(case hx=>first
|((with_reducible apply ac.qv);(case hx|hy=>exact rfl);(case hg=>exact xW);(case ht=>exact rfl);(case hr=>exact v))
|exact af))
|fail)
    exact⟨.inr rfl,rfl⟩
  ·
   have u:decide (A.drop q=B.drop q)=true:=by rw[ez h3,ez (l:=B) (by omega)];rfl
   rw[u];exact ae
 ·
  have u:decide (A=B)=false:=by simp;intro h;exact D (by rw[h])
  rw[u];exact ae
def EC{r:Rw}{c f b:Int}(hr:r.a8.length<=140737488351232):Cl ah 145 [.t (.agg (eU r)),.t (.int .i64 c),.t (.int .i64 f),.t (.int .i64 b)] [] (.t (.bool (decide (r=⟨[⟨c,f⟩],b⟩)))) []:=by
 obtain⟨T,B⟩:=r;have v:eU ⟨T,B⟩=[.arr (eg T),.int .i64 B]:=rfl;have hr:T.length<=140737488351232:=hr;rw[v];have u:=Kb (A:=T) (B:=[⟨c,f⟩]) hr (by simp);have y:eg [⟨c,f⟩]=[[.int .i64 c,.int .i64 f]]:=rfl;rw[y]at u;obtain⟨d,hd⟩:∃d,decide (T=[(⟨c,f⟩:Tm)])=d:=⟨_,rfl⟩
 have z:decide ((⟨T,B⟩:Rw)=⟨[⟨c,f⟩],b⟩)=(d&&decide (B=b)):=by
  rw[<- hd,Bool.eq_iff_iff];simp
 rw[z];rw[hd]at u;refine Cl.aq rfl Tryz.func145 rfl rfl rfl ?_
 cases d with
 |true=>
  repeat'(first
|((with_reducible apply aa.bi)<;>intro D)
|(refine ar ?_)
|((with_reducible apply aa.aB);(case hW=>exact rfl);(case hx=>exact af))
|((with_reducible apply aa.u0);(case hx=>first
|((with_reducible apply ac.j_ (es:=[[.int .i64 c,.int .i64 f]]));(case hw=>exact rfl);(case ho=>kernel_rfl);(case h=>kernel_rfl))
|(exact ap u)
|exact af))
|fail)
  all_goals(refine a_ (.inr rfl) rfl ?_;first|(simp_all;done)|(simp_all;omega))
 |false=>
  repeat'(first
|(refine ar ?_)
|((with_reducible apply aa.u0);(case hx=>first
|((with_reducible apply ac.j_ (es:=[[.int .i64 c,.int .i64 f]]));(case hw=>exact rfl);(case ho=>kernel_rfl);(case h=>kernel_rfl))
|(exact ap u)
|exact af))
|fail)
  exact⟨.inr rfl,rfl⟩
def LP{m:Md}{l:List (Int×Int)}{c:Cn}{t:Tb}(hv:bQ m.ai m.tables=true)(hm:bo m)(ht:t∈m.tables):Cl ah 172 [.t (.agg (eJ t)),.t (.tp (lx c)),.t (.tp (dp m l))] [] (.t (.bool (ij m.ai c t))) []:=by
 obtain⟨kd,J,⟨T,G⟩,y,sz⟩:=c;obtain⟨k,ht⟩:=List.mem_iff_getElem?.1 ht;have e1:lx ⟨kd,J,⟨T,G⟩,y,sz⟩=[.int .i64 kd,.int .i64 J,.arr (eg T),.int .i64 G,.int .i64 y,.int .i64 sz]:=rfl;have e2:eJ t=[.str t.name,.int .i64 t.kind,ay t.av,.int .i64 t.lo,.int .i64 t.hi,.int .i64 t.first]:=rfl;rw[e1,e2];unfold dp;obtain⟨c1,c2,I⟩:=jL hv ht;have al:=aO t.av;have an:=aO m.ai;have ab:=jk hv;obtain⟨C,U⟩:∃C:Cn,(⟨kd,J,⟨T,G⟩,y,sz⟩:Cn)=C:=⟨_,rfl⟩;have V:C.first=y:=by rw[<- U]
 have Z:C.size=sz:=by rw[<- U]
 rw[U];refine Cl.aq rfl Tryz.func172 rfl rfl rfl ?_;by_cases hl:t.av.length=2
 ·
  obtain⟨a,b,u⟩:=D9 hl;rw[u]at I;simp only[List.all_cons,Bool.and_eq_true]at I;have z:=I.1;simp only[cr,Bool.and_eq_true,decide_eq_true_eq]at z;obtain⟨g3,g4⟩:=z;obtain⟨s,D⟩:=aj (xs:=m.ai) (k:=a.toNat) (by omega);have ao:=aW D
  have hP:ij m.ai C t=true↔t.kind=0/\a=b/\t.first=y/\s=sz:=by
   have ea:t.av.getD 0 0=a:=by rw[u];rfl
   have eb:t.av.getD 1 0=b:=by rw[u];rfl
   rw[vV,ea,eb,V,Z,fb D];simp[hl]
  have ad:(aE t.av)[0]?=some [.int .i64 a]:=aW (by rw[u];rfl);have ag:(aE t.av)[1]?=some [.int .i64 b]:=aW (by rw[u];rfl);by_cases v:t.kind=0/\a=b/\t.first=y/\s=sz
  ·
   rw[hP.2 v];obtain⟨k1,k2,k3,k4⟩:=v;exact ae
  ·
   have hf:ij m.ai C t=false:=by rw[<- Bool.not_eq_true,hP];exact v
   rw[hf]
   repeat'(first
|(refine aY ?_)
|((with_reducible apply aa.aX)<;>intro hq)
|((with_reducible apply aa.bi)<;>intro hq)
|(refine ar ?_)
|((with_reducible apply aa.aB);(case hW=>exact rfl);(case hx=>exact af))
|((with_reducible apply aa.u0);(case hx=>exact af))
|fail)
   all_goals first
    |exact⟨.inr rfl,rfl⟩
    |(exfalso;apply v;refine⟨?_,?_,?_,?_⟩<;>first|assumption|omega)
 ·
  have hf:ij m.ai C t=false:=by rw[<- Bool.not_eq_true,vV];exact fun h=>hl h.2.1
  rw[hf];exact ae
def LQ{m:Md}{l:List (Int×Int)}{c:Cn}(hm:bo m)(hv:bQ m.ai m.tables=true)(hc:c.row.a8.length<=140737488351232):Cl ah 144 [.t (.agg (dp m l)),.t (.agg (lx c))] [] (.t (.bool (jH m c))) []:=by
 have D:=Jp (C:=m.tables) (p:=ij m.ai c) (c1:=.tp (lx c)) (c2:=.tp (dp m l)) (by have:=hm.tables;omega) (fun t ht=>LP hv hm ht);obtain⟨g,J⟩:∃g,m.tables.any (ij m.ai c)=g:=⟨_,rfl⟩;have V:jH m c=((decide (c.row.a8.length=0)&&decide (c.row.ib=0))&&g):=by unfold jH;rw[J]
 rw[J]at D;rw[V];obtain⟨U,I,⟨T,u⟩,G,sz⟩:=c;have hT:=mf T;have hc:T.length<=140737488351232:=hc;have Z:lx ⟨U,I,⟨T,u⟩,G,sz⟩=[.int .i64 U,.int .i64 I,.arr (eg T),.int .i64 u,.int .i64 G,.int .i64 sz]:=rfl;rw[Z]at D⊢;unfold dp at D⊢;refine Cl.aq rfl Tryz.func144 rfl rfl rfl ?_;by_cases v:T.length=0/\u=0
 ·
  obtain⟨y,rfl⟩:=v;rw[decide_eq_true y];exact ae
 ·
  have z:(decide (T.length=0)&&decide (u=0))=false:=by
   rw[<- Bool.not_eq_true,Bool.and_eq_true,decide_eq_true_eq,decide_eq_true_eq];exact v
  rw[z]
  repeat'(first
|((with_reducible apply aa.lZ);(case hp=>exact aA))
|((with_reducible apply aa.aX)<;>intro hq)
|(refine ar ?_)
|((with_reducible apply aa.aB);(case hW=>exact rfl);(case hx=>exact af))
|((with_reducible apply aa.u0);(case hx=>exact af))
|fail)
  all_goals first
   |exact⟨.inr rfl,rfl⟩
   |(exfalso;apply v;constructor <;>omega)
set_option maxHeartbeats 32000000
def RA{u:cG}{t:Tb}(h:t.kind=2\/t.kind=3):nY u t=((decide (u.kind=0)||decide (u.kind=1))&&decide (u.value=0)):=by
 unfold nY oZ;rw[if_pos (by rcases h with h|h <;>simp[h])]
def Rz{u:cG}{t:Tb}(h:¬(t.kind=2\/t.kind=3)):nY u t=(decide (u.kind=2)&&(decide (t.lo<=u.value)&&decide (u.value<=t.hi))):=by
 unfold nY oZ;rw[if_neg];rw[Bool.or_eq_true,decide_eq_true_eq,decide_eq_true_eq];exact h
def LV{m:Md}{l:List (Int×Int)}{u:cG}(hv:bQ m.ai m.tables=true)(hm:bo m)(hc:u.cell<=9223372036854775807):Cl ah 175 [.t (.agg (dp m l)),.t (.agg (uI u))] [] (.t (.bool (pj m u))) []:=by
 have y:=JQ (s:=false) (c:=u.cell) hv hc;have G:uI u=[.int .i64 u.kind,.int .i64 u.cell,.int .i64 u.value]:=rfl;rw[G];unfold dp pj;have U:=fJ m.tables
 cases z:fI m.ai m.tables false u.cell with
 |none=>
  rw[z]at y;have y:Cl ah 192 [.t (ay m.ai),.t (.arr (bq m.tables)),.t (.bool false),.t (.int .i64 u.cell)] [] (.aJ [.t (.int .i64 0),.nil,.t (.bool false)]) []:=y;refine Cl.aq rfl Tryz.func175 rfl rfl rfl ?_;exact ae
 |some Z=>
  obtain⟨i,t⟩:=Z;rw[z]at y;have y:Cl ah 192 [.t (ay m.ai),.t (.arr (bq m.tables)),.t (.bool false),.t (.int .i64 u.cell)] [] (.aJ [.t (.int .i64 (i:Int)),.ls 0,.t (.bool true)]) [.row false false 1 (aE (qw m.ai t.av (u.cell - t.first)))]:=y
  have D:m.tables[i]?=some t:=by
   unfold fI at z;rw[if_pos hv]at z;have:=(xU z).2.1;rwa[Nat.sub_zero]at this
  have V:=fo D;show Cl ah _ _ [] (.t (.bool (nY u t))) []
  refine Cl.aq rfl Tryz.func175 rfl rfl rfl ?_;by_cases v:t.kind=2\/t.kind=3
  ·
   rw[RA v];rcases v with v|v
   ·
    exact ae
   ·
    exact ae
  ·
   rw[Rz v];have I:¬t.kind=2:=fun h=>v (.inl h);have J:¬t.kind=3:=fun h=>v (.inr h);exact ae
def te(x:jv):nz x=[.arr (jb x.delta),.arr (iT x.hold),.arr (iW x.cg)]:=rfl
def LN{m:Md}{l:List (Int×Int)}{r:Rw}(hr:r.a8.length<=140737488351232)(hl:l.length<=100000):Cl ah 177 [.t (.agg (eU r)),.t (.tp (dp m l))] [] (.t (.bool (!cD l.length r))) []:=by
 have u:=DO (m:=m) (l:=l) hr hl;have v:eU r=[.arr (eg r.a8),.int .i64 r.ib]:=rfl;rw[v]at u⊢;unfold dp at u⊢;obtain⟨b,y⟩:∃b,cD l.length r=b:=⟨_,rfl⟩;rw[y]at u⊢;refine Cl.aq rfl Tryz.func177 rfl rfl rfl ?_;exact ae
def LO{m:Md}{l:List (Int×Int)}{x:jv}(hv:bQ m.ai m.tables=true)(hm:bo m)(hx:iB x)(hl:l.length<=100000):Cl ah 149 [.t (.agg (dp m l)),.t (.agg (nz x))] [] (.t (.bool (lC m l.length x))) []:=by
 rw[<- J4];obtain⟨D,H,U⟩:=x;have e1:nz ⟨D,H,U⟩=[.arr (jb D),.arr (iT H),.arr (iW U)]:=rfl;have hD:D.length<=17592186044416:=hx.delta;have hH:H.length<=17592186044416:=hx.hold;have al:∀r∈H,r.a8.length<=17592186044416:=hx.tD;have hU:U.length<=17592186044416:=hx.cg;have an:∀u∈U,u.cell<=9223372036854775807:=hx.cell;have av:=q_ D;have aD:=xc H;have aJ:=BD U;have aG:=k7 l;have kh:=Jn (C:=H) (p:=fun r=>!cD l.length r) (c1:=.tp (dp m l)) (by omega) (fun r hr=>LN (by have:=al r hr;omega) hl);have ku:=fun(u:cG) (J:u∈U)=>LV (l:=l) hv hm (an u J);obtain⟨hb,ad⟩:∃b,(H.any fun r=>!cD l.length r)=b:=⟨_,rfl⟩;rw[ad]at kh;have ab:H.all (cD l.length)=!hb:=by rw[<- ad];exact pD _ _
 obtain⟨Y,hY⟩:∃Y,(decide (H.length<=8)&&(decide (U.length<=32)&&H.all (cD l.length)))=Y:=⟨_,rfl⟩;have e0:yW m l.length ⟨D,H,U⟩=(aL (nv l.length D) 0 (D.drop 0)&&(aL (nX m U) 0 (U.drop 0)&&Y)):=by rw[<- hY];rfl
 rw[e0,e1];obtain⟨JC,ao⟩:∃JC,dp m l=JC:=⟨_,rfl⟩;unfold dp at kh ku⊢;refine Cl.aq rfl Tryz.func149 rfl rfl rfl ?_;refine ak ?_;refine ax.ind (fun q:Nat=>[(5,.t (.int .i64 (aU bv.cell D q))),(13,.t (.int .i64 (q:Int)))]) (fun q=>q<=D.length/\aL (nv l.length D) 0 (D.drop 0)=aL (nv l.length D) q (D.drop q)) (fun q=>D.length - q) 0 rfl ⟨by omega,rfl⟩ (fun q V=>?_);obtain⟨h1,h2⟩:=V;rw[h2];rcases Nat.lt_or_ge q D.length with h3|h3
 ·
  obtain⟨t,ht⟩:=aj h3;have hc:=pO ht;have kf:=ww t.add (m:=1000000000) (.inr (.inl rfl));have v:=dB (p:=nv l.length D) ht;have y:=dC (p:=nv l.length D) ht;have I:aU bv.cell D (q+1)=t.cell:=by simp only[aU,ht]
  have z:nv l.length D q t=true↔aU bv.cell D q <t.cell/\t.cell <l.length/\t.add≠0/\cH t.add 1000000000=true:=by
   unfold nv;simp only[Bool.and_eq_true,Bool.not_eq_true',decide_eq_true_eq,decide_eq_false_iff_not,ne_eq]
  rw[z]at v y;obtain⟨p,hp⟩:∃p,aU bv.cell D q=p:=⟨_,rfl⟩;rw[hp]at v y⊢;obtain⟨bf,G⟩:∃b,cH t.add 1000000000=b:=⟨_,rfl⟩;rw[G]at kf v y
  cases bf with
  |false=>
   rw[v (fun h=>by cases h.2.2.2)];exact ae
  |true=>
   repeat'(first
|((with_reducible apply aa.aR);(case hp=>exact aA))
|((with_reducible apply aa.aX)<;>intro V)
|((with_reducible apply aa.bi)<;>intro V)
|(refine ar ?_)
|((with_reducible apply aa.aB);(case hW=>exact rfl);(case hx=>first
|(exact ap kf)
|exact af))
|((with_reducible apply aa.u0);(case hx=>exact af))
|fail)
   all_goals first
    |exact a_ (.inr rfl) rfl (by rw[v (fun h=>by obtain⟨_,_,_,_⟩:=h;omega)];rfl)
    |exact⟨q+1,by rw[I];rfl,rfl,⟨by omega,y ⟨by omega,by omega,by omega,rfl⟩⟩,by omega⟩
 ·
  rw[cU h3,Bool.true_and];refine ak ?_;refine ax.ind (fun q:Nat=>[(5,.t (.int .i64 (aU cG.cell U q))),(46,.t (.int .i64 (q:Int)))]) (fun q=>q<=U.length/\aL (nX m U) 0 (U.drop 0)=aL (nX m U) q (U.drop q)) (fun q=>U.length - q) 0 rfl ⟨by omega,rfl⟩ (fun q V=>?_);obtain⟨g1,g2⟩:=V;rw[g2];rcases Nat.lt_or_ge q U.length with g3|g3
  ·
   obtain⟨u,J⟩:=aj g3;have au:=uJ J;have ag:=ku u (List.mem_of_getElem? J);have v:=dB (p:=nX m U) J;have y:=dC (p:=nX m U) J;have I:aU cG.cell U (q+1)=u.cell:=by simp only[aU,J]
   have z:nX m U q u=true↔aU cG.cell U q <u.cell/\pj m u=true:=by
    unfold nX;simp only[Bool.and_eq_true,decide_eq_true_eq]
   rw[z]at v y;obtain⟨p,hp⟩:∃p,aU cG.cell U q=p:=⟨_,rfl⟩;rw[hp]at v y⊢;obtain⟨bf,G⟩:∃b,pj m u=b:=⟨_,rfl⟩;rw[G]at ag v y
   cases bf with
   |false=>
    rw[v (fun h=>by cases h.2)];exact ae
   |true=>
    repeat'(first
|((with_reducible apply aa.aR);(case hp=>exact aA))
|((with_reducible apply aa.aX)<;>intro V)
|(refine ar ?_)
|((with_reducible apply aa.aB);(case hW=>exact rfl);(case hx=>first
|(exact ap ag)
|exact af))
|((with_reducible apply aa.u0);(case hx=>exact af))
|fail)
    all_goals first
     |exact a_ (.inr rfl) rfl (by rw[v (fun h=>by obtain⟨_,_⟩:=h;omega)];rfl)
     |exact⟨q+1,by rw[I];rfl,rfl,⟨by omega,y ⟨by omega,rfl⟩⟩,by omega⟩
  ·
   rw[cU g3,Bool.true_and,<- hY,ab];by_cases h8:H.length<=8
   ·
    rw[decide_eq_true h8,Bool.true_and];by_cases Z:U.length<=32
    ·
     rw[decide_eq_true Z,Bool.true_and]
     cases hb with
     |true=>
      exact ae
     |false=>
      exact ae
    ·
     rw[decide_eq_false Z,Bool.false_and];exact ae
   ·
    rw[decide_eq_false h8,Bool.false_and];exact ae
end Go.Proofs.YtjolgbkkocjpgaaGreatDoor
