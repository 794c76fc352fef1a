/- Law 32: EventDecides,in plain Lean. No condition. -/
import Derived.Test.YtgbfedgghjcdcaaGreatDoorOJ
set_option linter.all false
namespace Go.Proofs.YtgbfedgghjcdcaaGreatDoor
open Go.RowKit
set_option maxRecDepth 100000
set_option maxHeartbeats 32000000
section
variable {g:Cfg} {d:Option (List Nat)} {env:Env} {fr:Fr} {i':Nat}
def ah.uO{t e i:Nat}{z:TypeDesc}{m k y:Operand}{v:AV}{ks ks':List AV}{vs u:List SV}{x:SV}{fr':Fr}(hs:∀C:CallF,step g C d i' env fr (.mapUpdate t m k y)=bu g C (cX d i') env fr (.mapUpdate t m k y))(hm:iy g.P t=some (e,z))(ha:rd env m=.lm i)(hk:rd env k=.t v)(hd:qW z v=true)(hy:rd env y=x)(hb:fr[i]?=some (.map false ks vs))(hf:dY z v ks 0=some none)(hks:ks++[v]=ks')(hvs:vs++[x]=u)(hfr:aH (fr.set i (.map false ks' u)) fr'):ah g d i' env fr (.mapUpdate t m k y) .dead fr' []:=.r fun C=>by
 rw[hs];obtain rfl:=hfr.eq;subst hks hvs hy;unfold bu nq;simp only[hm,ha,hk,hb,hd,hf]
end
def jB(N:List Int):List AV:=N.map (.int .i64)
theorem ug{s:Int}:∀(N:List Int) (i:Nat),dY (.int .i64) (.int .i64 s) (jB N) i=(if N.any (fun u=>decide (u=s))=true then some (some (i+N.findIdx fun u=>decide (u=s)))else some none)
 |[],i=>rfl
 |u::N,i=>by
  show dY (.int .i64) (.int .i64 s) (.int .i64 u::jB N) i=_
  unfold dY;have e:ij (.int .i64) [.int .i64 s] [.int .i64 u]=some (decide (s=u)):=rfl;rw[e,ug N (i+1),List.any_cons,List.findIdx_cons];by_cases h:u=s
  ·subst h;rw[decide_eq_true rfl];simp
  ·have h2:decide (s=u)=false:=decide_eq_false fun v=>h v.symm;rw[h2,decide_eq_false h];simp only[Bool.false_or,cond_false];split
   ·simp;omega
   ·rfl
def xm{s:Int}{N:List Int}(h:(N.any fun u=>decide (u=s))=false):dY (.int .i64) (.int .i64 s) (jB N) 0=some none:=by rw[ug,h];rfl
def fC(l:List Ev):Int:=l.foldl (fun t x=>max t x.t) 0
def ED{l:List Ev}{q:Nat}{x:Ev}(h:l[q]?=some x):fC (l.take (q+1))=max (fC (l.take q)) x.t:=qH _ _ h
theorem uq:∀(l:List Ev) (t:Int),t<=l.foldl (fun t x=>max t x.t) t/\∀x∈l,x.t<=l.foldl (fun t x=>max t x.t) t
 |[],t=>⟨Int.le_refl _,fun x u=>by cases u⟩
 |y::l,t=>by
  obtain⟨h1,h2⟩:=uq l (max t y.t);rw[List.foldl_cons];refine⟨by omega,fun x u=>?_⟩;rcases List.mem_cons.1 u with rfl|u
  ·omega
  ·exact h2 x u
def xT(l:List Ev):0<=fC l:=(uq l 0).1
def xS{l:List Ev}{b:Int}(hb:0<=b)(h:∀x∈l,x.t<=b):fC l<=b:=by
 unfold fC;suffices H:∀(l:List Ev) (t:Int),t<=b->(∀x∈l,x.t<=b)->l.foldl (fun t x=>max t x.t) t<=b from H l 0 hb h
 intro l
 induction l with
 |nil=>exact fun t v _=>v
 |cons y l D=>
  intro t v u;have:=u y (by simp);exact D (max t y.t) (by omega) fun x z=>u x (by simp[z])
def cV(c:List Int)(a t:Int):Ev:=⟨0,c.getD 0 0+1,t,c,0,a,0,0,0,0,0,0,1⟩
def ur{l:List Ev}{n:Nat}(hf:∀e∈l,bU e=true)(hm:∀e∈l,e.past.length=n){k:Nat}(hk:k <n):pZ l k ((cm n l).getD k 0):=Co hk fun e u=>by
 obtain⟨h1,h2,h3,h4⟩:=qI (hf e u);have v:=qK (o9 (hf e u)) e.r.toNat;have y:=hm e u;omega
def tl{l:List Ev}{n:Nat}(hf:∀e∈l,bU e=true)(hm:∀e∈l,e.past.length=n)(y:1<=n)(z:n<=5):cG (cm n l)=true:=IY (by rw[lN];exact y) (by rw[lN];exact z) fun k u=>by
 rw[lN]at u;obtain⟨h1,h2,h3⟩:=ur hf hm u;refine⟨h1,?_⟩;rcases h3 with h3|⟨e,v,G,D⟩
 ·omega
 ·have:=qI (hf e v);omega
def EF{l:List Ev}{n:Nat}{a t:Int}(hf:∀e∈l,bU e=true)(hm:∀e∈l,e.past.length=n)(z:1<=n)(D:n<=5)(hc:(cm n l).getD 0 0 <1024)(G:0<=a)(I:a<=255)(O:1<=t)(Q:t<=1073741824):bU (cV (cm n l) a t)=true:=by
 have u:=tl hf hm z D;have y:=lN n l;have J:=qK u 0;unfold bU iS mI l4 cD cV;simp only[u,Bool.true_and,if_true];have v:(0:Int).toNat=0:=rfl;rw[v,y];simp only[Bool.and_eq_true,decide_eq_true_eq,decide_true,Bool.true_and,Bool.and_true];omega
def jd(u:bn):Int:=if u.kind=0 then 1 else if u.kind=1 then 0 else u.value
def eJ(U:List bn)(q:Nat):List Int:=(U.take q).map (·.cell)
def je(U:List bn)(q:Nat):List SV:=(U.take q).map fun u=>.t (.int .i64 (jd u))
def Ex{U:List bn}{q:Nat}{u:bn}(h:U[q]?=some u):jB (eJ U q)++[.int .i64 u.cell]=jB (eJ U (q+1)):=by
 unfold eJ jB;rw[List.take_add_one,h];simp
def I3{U:List bn}{q:Nat}{u:bn}(h:U[q]?=some u):je U q++[.t (.int .i64 (jd u))]=je U (q+1):=by
 unfold je;rw[List.take_add_one,h];simp
def I2{U:List bn}{j:Nat}{u:bn}(h:U[j]?=some u):(je U U.length)[j]?=some (.t (.int .i64 (jd u))):=by
 unfold je;rw[List.take_length,List.getElem?_map,h];rfl
def ni{σ:Nat->Option Nat}{ks:List AV}{U:List bn}{q:Nat}{y z D G I J O Q:Lb}{bs v:Fr}(h1:y=I)(h2:z=J)(h3:D=O)(h4:G=Q)(h:bs=v):(y::z::D::G::Lb.map false ks (SV.ca σ (je U q))::bs)=I::J::O::Q::Lb.map false ks (je U q)::v:=by
 have e:je U q=((U.take q).map fun u=>AV.int .i64 (jd u)).map SV.t:=by unfold je;rw[List.map_map];rfl
 rw[e,r6,h1,h2,h3,h4,h]
def p9(U:List bn):Prop:=∀(i j:Nat) (u v:bn),i <j->U[i]?=some u->U[j]?=some v->u.cell <v.cell
def IK{m:Md}(h:gN m=true){A:dT}{k:Nat}(O:m.aJ[k]?=some A):p9 A.eff.aQ/\∀u∈A.eff.aQ,u.kind=0\/u.kind=1\/u.kind=2:=by
 unfold gN at h;simp only[Bool.and_eq_true]at h;have h2:=h.2.2.1;unfold oD at h2;simp only[Bool.and_eq_true]at h2;have h3:=sY.1 h2.2 k A O;unfold gu mZ at h3;simp only[Bool.and_eq_true]at h3;have h4:=sY.1 h3.2.2.1.2.2
 have step:∀i u,A.eff.aQ[i]?=some u->(i=0\/(A.eff.aQ.getD (i - 1) ⟨0,0,0⟩).cell <u.cell)/\(u.kind=0\/u.kind=1\/u.kind=2):=fun i u y=>by
  have z:=h4 i u y;unfold fK at z;split at z
  ·rename_i t _;simp only[Bool.and_eq_true,Bool.or_eq_true,decide_eq_true_eq]at z;refine⟨z.1,?_⟩;have G:=z.2;unfold sH at G;split at G
   ·simp only[Bool.and_eq_true,Bool.or_eq_true,decide_eq_true_eq]at G;omega
   ·simp only[Bool.and_eq_true,decide_eq_true_eq]at G;omega
  ·cases z
 refine⟨?_,fun u y=>?_⟩
 ·have I:∀d i u v,A.eff.aQ[i]?=some u->A.eff.aQ[i+d+1]?=some v->u.cell <v.cell:=fun d=>by
   induction d with
   |zero=>
    intro i u v y D;rcases(step (i+0+1) v D).1 with h|h
    ·omega
    ·rw[show i+0+1 - 1=i by omega,List.getD_eq_getElem?_getD,y]at h;exact h
   |succ d V=>
    intro i u v y D;obtain⟨w,J⟩:∃w,A.eff.aQ[i+d+1]?=some w:=⟨_,List.getElem?_eq_getElem (by have:=(List.getElem?_eq_some_iff.1 D).1;omega)⟩;have h1:=V i u w y J;rcases(step (i+(d+1)+1) v D).1 with h|h
    ·omega
    ·rw[show i+(d+1)+1 - 1=i+d+1 by omega,List.getD_eq_getElem?_getD,J]at h;have h:w.cell <v.cell:=h;omega
  intro i j u v Q y D;exact I (j - i - 1) i u v y (by rw[show i+(j - i - 1)+1=j by omega];exact D)
 ·obtain⟨k,U⟩:=List.getElem?_of_mem y;exact(step k u U).2
def Ew{U:List bn}(hr:p9 U){q:Nat}{u:bn}(h:U[q]?=some u):((eJ U q).any fun c=>decide (c=u.cell))=false:=by
 rw[<- Bool.not_eq_true,List.any_eq_true];rintro⟨c,D,G⟩;unfold eJ at D;obtain⟨v,I,rfl⟩:=List.mem_map.1 D;obtain⟨j,z⟩:=List.getElem?_of_mem I
 have y:j <q:=by
  have:=(List.getElem?_eq_some_iff.1 z).1;rw[List.length_take]at this;omega
 rw[List.getElem?_take,if_pos y]at z;have:=hr j q v u y z h;simp at G;omega
def Eu{U:List bn}(c:Int):dY (.int .i64) (.int .i64 c) (jB (eJ U U.length)) 0=some none/\(∀u∈U,u.cell≠c)\/∃j u,dY (.int .i64) (.int .i64 c) (jB (eJ U U.length)) 0=some (some j)/\U[j]?=some u/\u.cell=c:=by
 cases y:(eJ U U.length).any fun x=>decide (x=c)with
 |false=>
  refine .inl ⟨xm y,fun u O J=>?_⟩;rw[<- Bool.not_eq_true,List.any_eq_true]at y;refine y ⟨u.cell,?_,by simp[J]⟩;unfold eJ;rw[List.take_length];exact List.mem_map_of_mem O
 |true=>
  right
  rw[List.any_eq_true]at y;obtain⟨x,I,G⟩:=y;have z:=List.findIdx_lt_length_of_exists (p:=fun u=>decide (u=c)) ⟨x,I,G⟩;have v:=z;unfold eJ at v;rw[List.take_length,List.length_map]at v;have D:=List.findIdx_getElem (p:=fun u=>decide (u=c)) (w:=z);refine⟨(eJ U U.length).findIdx fun u=>decide (u=c),U[(eJ U U.length).findIdx fun u=>decide (u=c)]'(by unfold eJ;rw[List.take_length];exact v),?_,List.getElem?_eq_getElem _,?_⟩
  ·rw[ug,if_pos (List.any_eq_true.2 ⟨x,I,G⟩),Nat.zero_add]
  ·simp only[decide_eq_true_eq]at D;unfold eJ at D;simp only[List.take_length,List.getElem_map]at D;unfold eJ;simp only[List.take_length];exact D
def fy(k c:Int)(u:bn):Bool:=!(decide (u.cell=c)&&!(jM k==(decide (u.kind=0)||decide (u.kind=1))))
def qE(m:Md)(k c:Int):Bool:=m.aJ.all fun a=>a.eff.aQ.all (fy k c)
def EG{U:List bn}(hr:p9 U){j:Nat}{u:bn}(h:U[j]?=some u):(U.reverse.find? fun v=>decide (v.cell=u.cell))=some u:=by
 cases y:U.reverse.find? fun v=>decide (v.cell=u.cell)with
 |none=>
  have:=List.find?_eq_none.1 y u (List.mem_reverse.2 (List.mem_of_getElem? h));simp at this
 |some v=>
  have h1:=List.find?_some y;have h2:=List.mem_reverse.1 (List.mem_of_find?_eq_some y);obtain⟨i,z⟩:=List.getElem?_of_mem h2;have h1:v.cell=u.cell:=by simpa using h1
  rcases Nat.lt_trichotomy i j with g|g|g
  ·have:=hr i j v u g z h;omega
  ·subst g;rw[z]at h;exact h
  ·have:=hr j i u v g h z;omega
def Jo(m:Md)(l:List Ev)(e:Ev)(c:Int){u:bn}(h:iH m c e=some u):cn m (l++[e]) c=cn m l c++[⟨e,u⟩]:=by
 unfold cn;rw[List.filterMap_append];simp[h]
def CX{m:Md}{l:List Ev}{n:Nat}{a t:Int}{A:dT}{T:Tb}{j:Nat}{u:bn}(D:ClosedP l)(hm:∀e∈l,e.past.length=n)(n1:1<=n)(n5:n<=5)(ht:∀e∈l,e.t <t)(U:m.aJ[a.toNat]?=some A)(hr:p9 A.eff.aQ)(hk:u.kind=0\/u.kind=1\/u.kind=2)(Z:A.eff.aQ[j]?=some u)(hf:qE m T.kind u.cell=true):cS T (cn m (l++[cV (cm n l) a t]) u.cell)=[jd u]:=by
 have Q:iH m u.cell (cV (cm n l) a t)=some u:=by
  unfold iH;have J:(cV (cm n l) a t).k=0:=rfl;have e2:(cV (cm n l) a t).a=a:=rfl;rw[if_pos J,e2,List.getD_eq_getElem?_getD,U];exact EG hr Z
 rw[Jo m l _ _ Q];have v:fy T.kind u.cell u=true:=List.all_eq_true.1 (List.all_eq_true.1 hf A (List.mem_of_getElem? U)) u (List.mem_of_getElem? Z);unfold fy jM at v;have hv:=tl D.form hm n1 n5;have hl:=lN n l
 have G:∀{c:List Int},(∃e∈l,c=e.past)->hasS c 0 ((cm n l).getD 0 0+1)=false:=by
  rintro c ⟨e,he,rfl⟩;rw[<- Bool.not_eq_true];intro O;obtain⟨y,hy,V,-⟩:=D.down e he _ _ O;have ad:y.r=0:=congrArg Prod.fst V;have af:y.n=(cm n l).getD 0 0+1:=congrArg Prod.snd V;have:=(ur D.form hm (k:=0) (by omega)).2.1 y hy (by omega);omega
 refine I0 (w:=⟨cV (cm n l) a t,u⟩) (fun x I=>?_) (fun x I=>G ⟨x.e,(re.1 I).1,rfl⟩) ?_ (fun x I=>ht x.e (re.1 I).1) (fun h=>?_) (fun h=>?_)
 ·have z:=(re.1 I).1;obtain⟨g1,g2,g3,g4⟩:=qI (D.form x.e z);have g5:=qK (o9 (D.form x.e z)) x.e.r.toNat;have g6:=hm x.e z;have g7:=(ur D.form hm (k:=x.e.r.toNat) (by omega)).2.1 x.e z (by omega);exact D7 hv g1 (by show x.e.r <((cm n l).length:Int);omega) (by omega) g7
 ·show hasS (cm n l) 0 ((cm n l).getD 0 0+1)=false
  rw[<- Bool.not_eq_true];intro O;have:=(D6 D O).2.2.2.2;have J:(0:Int).toNat=0:=rfl;rw[J]at this;omega
 ·show u.kind=0\/u.kind=1
  rcases hk with k|k|k
  ·exact .inl k
  ·exact .inr k
  ·rcases h with h|h <;>simp[h,k]at v
 ·show u.kind=2
  rcases hk with k|k|k
  ·simp[k]at v;simp at h;omega
  ·simp[k]at v;simp at h;omega
  ·exact k
def AO{m:Md}{l:List Ev}{i:Nat}{t:Tb}(h:(fE m.aq m.tables)[i]?=some t):(lz m l)[i]?=some (cS t (cn m l (i:Int))):=by
 unfold lz;rw[List.getElem?_mapIdx,h];rfl
def AP(m:Md)(l:List Ev):(lz m l).length=(fE m.aq m.tables).length:=by
 unfold lz;rw[List.length_mapIdx]
def Bj{m:Md}{l:List Ev}{e:Ev}(h:lJ m l=true)(he:eP m e.past.length e=true):lJ m (l++[e])=true:=by
 unfold lJ at h⊢;rw[List.all_append,h];simp[he]
set_option maxRecDepth 100000
set_option maxHeartbeats 32000000
def Js{r:Int}(h:r <1\/5 <r):Cl ap 73 [.t (.int .i64 r)] [] .nil []:=by
 refine Cl.aE rfl Tryz.func73 rfl rfl rfl ?_
 repeat'(first
|(with_reducible apply aa.seq)
|((with_reducible apply aa.text);(try case hm=>exact rfl))
|(with_reducible first|apply aa.ret|apply ay)
|((with_reducible apply aa.am);(case hc=>exact rfl))
|((with_reducible apply ab.aU)<;>intro u)
|((with_reducible apply ab.bh);(case hp=>exact ae))
|(with_reducible apply ab.af)
|((with_reducible apply ab.gf);(case hW=>exact rfl))
|((with_reducible apply ab.au);(case hW=>exact rfl);(case hx=>exact ac))
|((with_reducible apply ab.u0);(case hx=>exact ac))
|fail)
 all_goals first
  |exact⟨.inr rfl,rfl⟩
  |(exfalso;omega)
def Cs{l:List Ev}{m:Int}(h:m <1\/5 <m):Cl ap 25 [.t (.int .i64 m),.t (.arr (br l))] [] (.t (.aL [.arr [],.int .i64 1])) []:=by
 have u:=Js h;refine Cl.fS rfl Tryz.func25 rfl rfl rfl ?_
 repeat'(first
|(with_reducible apply aa.seq)
|((with_reducible apply aa.text);(try case hm=>exact rfl))
|(with_reducible first|apply aa.ret|apply ay)
|((with_reducible apply aa.am);(case hc=>exact rfl))
|(with_reducible apply ab.af)
|((with_reducible apply ab.gf);(case hW=>exact rfl))
|((with_reducible apply ab.u0);(case hx=>first
|(exact aj u)
|exact ac))
|fail)
 exact⟨.inr rfl,rfl⟩
def Cr{l:List Ev}{m:Nat}(hl:l.length<=140737488351232)(hp:∀e∈l,e.past.length<=140737488351232)(h1:1<=m)(D:m<=5)(hc:fv l=false):Cl ap 25 [.t (.int .i64 (m:Int)),.t (.arr (br l))] [] (.t (.aL [.arr [],.int .i64 1])) []:=by
 have v:=A5 h1 D;have u:=wU hl hp;rw[hc]at u
 obtain⟨z,y,G⟩:∃z y,aW (List.replicate m 0)=z::y:=by
  obtain⟨k,rfl⟩:∃k,m=k+1:=⟨m - 1,by omega⟩;exact⟨_,_,rfl⟩
 rw[G]at v;refine Cl.fS rfl Tryz.func25 rfl rfl rfl ?_
 repeat'(first
|(with_reducible apply aa.seq)
|((with_reducible apply aa.text);(try case hm=>exact rfl))
|(with_reducible first|apply aa.ret|apply ay)
|((with_reducible apply aa.am);(case hc=>exact rfl))
|(with_reducible apply ab.af)
|((with_reducible apply ab.au);(case hW=>exact rfl);(case hx=>first
|(exact aj u)
|exact ac))
|((with_reducible apply ab.u0);(case hx=>first
|(exact dy v)
|exact ac))
|fail)
 exact⟨.inr rfl,rfl⟩
def GF(lo hi:Int):Cl ap 29 [.t (.agg [.int .i64 lo,.int .i64 hi])] [] (.t (.int .i64 (min (max 0 lo) hi))) []:=by
 refine Cl.aE rfl Tryz.func29 rfl rfl rfl ?_
 repeat'(first
|(with_reducible apply aa.seq)
|((with_reducible apply aa.text);(try case hm=>exact rfl))
|(with_reducible first|apply aa.ret|apply ab.af)
|((with_reducible apply ab.u0);(case hx=>exact ac))
|fail)
 exact⟨.inr rfl,rfl⟩
def DM{m:Md}(hm:cW m)(k c:Int):Cl ap 30 [.t (di m),.t (.int .i64 k),.t (.int .i64 c)] [] (.t (.bool (qE m k c))) []:=by
 have ag:=mH m.aJ;have an:=hm.aJ;have I:=hm.aQ;have e0:qE m k c=(m.aJ.drop 0).all (fun a=>a.eff.aQ.all (fy k c)):=rfl;rw[e0,cO];refine Cl.aE rfl Tryz.func30 rfl rfl rfl ?_
 repeat'(first
|(with_reducible first|apply aa.seq|apply aa.block)
|((with_reducible apply aa.text);(try case hm=>exact rfl))
|(with_reducible apply ab.af)
|((with_reducible apply ab.u0);(case hx=>exact ac))
|fail)
 apply aa.aM
 case ho=>exact rfl
 case hp=>exact rfl
 case hl=>exact rfl
 case hs=>exact slt
 refine aI.cd (fun q:Nat=>[(15,.t (.int .i64 (q:Int)))]) (fun q=>[.box false 30 ((cg m).map .t)]) (fun q=>q<=m.aJ.length/\(m.aJ.drop 0).all (fun a=>a.eff.aQ.all (fy k c))=(m.aJ.drop q).all (fun a=>a.eff.aQ.all (fy k c))) (fun q=>m.aJ.length - q) 0 rfl rfl ⟨by omega,rfl⟩ (fun q J=>?_);obtain⟨q1,q2⟩:=J;rw[q2];rcases Nat.lt_or_ge q m.aJ.length with h3|h3
 ·
  obtain⟨a,D⟩:=av h3;have ad:=mG D;have al:=mu a.eff.aQ;have aq:=I a (List.mem_of_getElem? D);rw[ib _ D];obtain⟨Z,hZ⟩:∃Z,(m.aJ.drop (q+1)).all (fun a=>a.eff.aQ.all (fy k c))=Z:=⟨_,rfl⟩;rw[hZ];have e1:a.eff.aQ.all (fy k c)=(a.eff.aQ.drop 0).all (fy k c):=rfl;rw[e1]
  repeat'(first
|(with_reducible first|apply aa.seq|apply aa.block)
|((with_reducible apply aa.text);(try case hm=>exact rfl))
|(with_reducible first|apply aa.skip|apply ai)
|((with_reducible apply aa.am);(case hc=>exact rfl))
|((with_reducible apply ab.ao);(case hp=>exact ae))
|(with_reducible apply ab.af)
|((with_reducible apply ab.u0);(case hx=>exact ac))
|fail)
  apply aa.aM
  case ho=>exact rfl
  case hp=>exact rfl
  case hl=>exact rfl
  case hs=>exact slt
  refine aI.cd (fun j:Nat=>[(23,.t (.int .i64 (j:Int)))]) (fun j=>[.box false 30 ((cg m).map .t),.box false 63 (([.int .i64 a.op,aF a.args,.arr (jo a.eff.delta),.arr (kI a.eff.hold),.arr (bL a.eff.aQ)]:List AV).map .t)]) (fun j=>j<=a.eff.aQ.length/\(a.eff.aQ.drop 0).all (fy k c)=(a.eff.aQ.drop j).all (fy k c)) (fun j=>a.eff.aQ.length - j) 0 rfl rfl ⟨by omega,rfl⟩ (fun j hj=>?_);obtain⟨g1,g2⟩:=hj;rw[g2];rcases Nat.lt_or_ge j a.eff.aQ.length with g3|g3
  ·
   obtain⟨u,hu⟩:=av g3;have aB:=jS hu;rw[ib _ hu];obtain⟨Y,z⟩:∃Y,(a.eff.aQ.drop (j+1)).all (fy k c)=Y:=⟨_,rfl⟩;rw[z]
   cases hf:fy k c u with
   |false=>
    have v:=hf;unfold fy jM at v;simp only[Bool.not_eq_false',Bool.and_eq_true,decide_eq_true_eq]at v;obtain⟨y,G⟩:=v;by_cases O:k=2 <;>by_cases Q:k=3 <;>by_cases U:u.kind=0 <;>by_cases V:u.kind=1 <;>simp[O,Q,U,V]at G <;>
    repeat'(first
|(with_reducible first|apply aa.seq|apply aa.block)
|((with_reducible apply aa.text);(try case hm=>exact rfl))
|(with_reducible first|apply aa.skip|apply aa.ret|apply ai|apply ay|apply aG|apply aO)
|((with_reducible apply aa.am);(case hc=>exact rfl))
|((with_reducible apply aa.ak);(case hc=>exact rfl))
|((with_reducible apply ab.ao);(case hp=>exact ae))
|((with_reducible apply ab.aw);(case hp=>exact ae))
|((with_reducible apply ab.bh);(case hp=>exact ae))
|((with_reducible apply ab.aV);(case hp=>exact ae))
|(with_reducible apply ab.af)
|((with_reducible apply ab.gf);(case hW=>exact rfl))
|((with_reducible apply ab.au);(case hW=>exact rfl);(case hx=>exact ac))
|((with_reducible apply ab.u0);(case hx=>exact ac))
|fail)
    all_goals first
     |exact aS (.inr rfl) rfl rfl
     |(exfalso;omega)
   |true=>
    have v:=hf;unfold fy jM at v;by_cases y:u.cell=c
    ·
     rw[decide_eq_true y]at v;by_cases O:k=2 <;>by_cases Q:k=3 <;>by_cases U:u.kind=0 <;>by_cases V:u.kind=1 <;>simp[O,Q,U,V]at v <;>
     repeat'(first
|(with_reducible first|apply aa.seq|apply aa.block)
|((with_reducible apply aa.text);(try case hm=>exact rfl))
|(with_reducible first|apply aa.skip|apply ai|apply aG)
|((with_reducible apply aa.am);(case hc=>exact rfl))
|((with_reducible apply aa.ak);(case hc=>exact rfl))
|((with_reducible apply ab.ao);(case hp=>exact ae))
|((with_reducible apply ab.aw);(case hp=>exact ae))
|((with_reducible apply ab.bh);(case hp=>exact ae))
|((with_reducible apply ab.aV);(case hp=>exact ae))
|(with_reducible apply ab.af)
|((with_reducible apply ab.gf);(case hW=>exact rfl))
|((with_reducible apply ab.au);(case hW=>exact rfl);(case hx=>exact ac))
|((with_reducible apply ab.u0);(case hx=>exact ac))
|fail)
     all_goals first
      |exact⟨j+1,rfl,rfl,⟨by omega,by rw[z];rfl⟩,by omega⟩
      |(exfalso;omega)
    ·
     repeat'(first
|(with_reducible first|apply aa.seq|apply aa.block)
|((with_reducible apply aa.text);(try case hm=>exact rfl))
|(with_reducible first|apply aa.skip|apply ai|apply aG)
|((with_reducible apply aa.am);(case hc=>exact rfl))
|((with_reducible apply aa.ak);(case hc=>exact rfl))
|((with_reducible apply ab.ao);(case hp=>exact ae))
|((with_reducible apply ab.aw);(case hp=>exact ae))
|((with_reducible apply ab.aU)<;>intro J)
|((with_reducible apply ab.a_)<;>intro J)
|(with_reducible apply ab.af)
|((with_reducible apply ab.gf);(case hW=>exact rfl))
|((with_reducible apply ab.au);(case hW=>exact rfl);(case hx=>exact ac))
|((with_reducible apply ab.u0);(case hx=>exact ac))
|fail)
     all_goals first
      |exact⟨j+1,rfl,rfl,⟨by omega,by rw[z];rfl⟩,by omega⟩
      |(exfalso;omega)
  ·
   rw[gv _ g3,Bool.true_and]
   repeat'(first
|(with_reducible apply aa.seq)
|((with_reducible apply aa.text);(try case hm=>exact rfl))
|(with_reducible first|apply aa.exit|apply ai|apply aA|apply aG|apply az)
|((with_reducible apply aa.ak);(case hc=>exact rfl))
|((with_reducible apply ab.aw);(case hp=>exact ae))
|(with_reducible apply ab.af)
|((with_reducible apply ab.u0);(case hx=>exact ac))
|fail)
   exact⟨q+1,rfl,rfl,⟨by omega,hZ.symm⟩,by omega⟩
 ·
  rw[gv _ h3]
  repeat'(first
|(with_reducible apply aa.seq)
|((with_reducible apply aa.text);(try case hm=>exact rfl))
|(with_reducible first|apply aa.exit|apply aa.ret|apply ai|apply aA|apply az)
|((with_reducible apply aa.ak);(case hc=>exact rfl))
|((with_reducible apply ab.aw);(case hp=>exact ae))
|(with_reducible apply ab.af)
|((with_reducible apply ab.u0);(case hx=>exact ac))
|fail)
  exact⟨.inr rfl,rfl⟩
end Go.Proofs.YtgbfedgghjcdcaaGreatDoor
