/- The reference's scanning of a word,as contracts. No condition. -/
import Derived.Test.YtjolgbkkocjpgaaGreatDoorTL
import Derived.Test.YtjolgbkkocjpgaaGreatDoorTM
import Derived.Test.YtjolgbkkocjpgaaGreatDoorTS
import Derived.Test.YtjolgbkkocjpgaaGreatDoorTD
set_option linter.all false
namespace Go.Proofs.YtjolgbkkocjpgaaGreatDoor
open Go.RowKit
set_option maxRecDepth 100000
set_option maxHeartbeats 16000000
def Bu(t:Tok):List AV:=[.int .i64 t.kind,.int .i64 (t.zx:Int),.int .i64 (t.at_:Int),.int .i64 (t.rf:Int)]
def mb(l:List Tok):List (List AV):=l.map Bu
def Pu{l:List UInt8}(hl:l.length<=4096):Cl ah 184 [.t (.str (bs l))] [] (.aJ [.ls 0,.t (.int .i64 0)]) [.row false false 4 (mb (qC l))]:=by
 have U:(bs l).size=l.length:=e9 l;refine Cl.aq rfl Tryz.func184 rfl rfl rfl ?_;refine ak ?_;refine ax.cA (fun s:Nat×Bool×List Tok=>[(4,.ls 0),(5,.t (.int .i64 (s.1:Int)))]) (fun s=>[.row false s.2.1 4 (mb s.2.2)]) (fun s=>s.1<=l.length/\s.2.2.length<=s.1/\s.2.2++sn l s.1=qC l) (fun s=>l.length - s.1) (0,false,[]) rfl rfl ⟨by simp,by simp,rfl⟩ (fun s D=>?_);obtain⟨q,V,T⟩:=s;dsimp only at D⊢;obtain⟨h1,h2,h3⟩:=D;have ks:=Pw (q0:=q) (l:=l) (by omega) h1;have ha:=yu h1;have z:(mb T).length=T.length:=by simp[mb]
 rcases Nat.lt_or_ge (cN l q) l.length with h4|h4
 ·
  have G:=Pz (l:=l) (by omega) h4;have J:=yZ h4;have I:cN l q+(fL (l.drop (cN l q))).2=jE l q:=rfl;rw[I]at G;have v:mb T++[[.int .i64 (fL (l.drop (cN l q))).1,.int .i64 (q:Int),.int .i64 (cN l q:Int),.int .i64 (jE l q:Int)]]=mb (T++[⟨(fL (l.drop (cN l q))).1,q,cN l q,jE l q⟩]):=by simp[mb,Bu]
  have y:=PQ h1 h4
  repeat'(first
|(with_reducible first|apply am.seq|apply am.block)
|((with_reducible apply am.text);(try case hm=>exact rfl))
|(with_reducible first|apply am.skip|apply dx)
|((with_reducible apply am.ew);(case hc=>exact rfl))
|((with_reducible apply aa.aR);(case hp=>exact aA))
|(with_reducible first|apply aa.cI|apply aa.eE)
|((with_reducible apply aa.u);(case hx=>((with_reducible apply ac.da);(case hs=>exact fun _=>rfl);(case ha|ht=>exact rfl);(case hr=>first|(with_reducible exact c7)|(with_reducible exact rw1)|(with_reducible exact c8)|(with_reducible exact rw3)|(with_reducible exact rw4)|exact rfl);(case hx|hy|hn|hb|hok=>exact rfl);(case hlen=>exact tQ (by rw[z];simp;omega) (by decide));(case hv=>exact v);(case hk=>exact de);(case hf=>exact leq))))
|((with_reducible apply aa.u0);(case hx=>first
|(exact ap ks)
|(exact ap G)
|exact af))
|fail)
  refine⟨(jE l q,true,T++[⟨(fL (l.drop (cN l q))).1,q,cN l q,jE l q⟩]),rfl,rfl,⟨J.2,by simp;omega,?_⟩,by dsimp only;omega⟩;dsimp only;rw[List.append_assoc,List.singleton_append,<- y];exact h3
 ·
  have y:=PP h1 (by omega);have v:mb T++[[.int .i64 0,.int .i64 (q:Int),.int .i64 (l.length:Int),.int .i64 (l.length:Int)]]=mb (qC l):=by rw[<- h3,y];simp[mb,Bu]
  repeat'(first
|(with_reducible apply am.seq)
|((with_reducible apply am.text);(try case hm=>exact rfl))
|(with_reducible first|apply am.exit|apply am.ret|apply dx|apply qG|apply pI)
|((with_reducible apply am.jB);(case hc=>exact rfl))
|((with_reducible apply aa.cQ);(case hp=>exact aA))
|(with_reducible apply aa.cI)
|((with_reducible apply aa.u);(case hx=>((with_reducible apply ac.da);(case hs=>exact fun _=>rfl);(case ha|ht=>exact rfl);(case hr=>first|(with_reducible exact c7)|(with_reducible exact rw1)|(with_reducible exact c8)|(with_reducible exact rw3)|(with_reducible exact rw4)|exact rfl);(case hx|hy|hn|hb|hok=>exact rfl);(case hlen=>exact tQ (by rw[z];simp;omega) (by decide));(case hv=>exact v);(case hk=>exact de);(case hf=>exact leq))))
|((with_reducible apply aa.u0);(case hx=>first
|(exact ap ks)
|exact af))
|fail)
  exact⟨.inr rfl,rfl⟩
def Pt{l:List UInt8}(hl:4096 <l.length):Cl ah 184 [.t (.str (bs l))] [] (.aJ [.nil,.t (.int .i64 8)]) []:=by
 have u:(bs l).size=l.length:=e9 l;refine Cl.aq rfl Tryz.func184 rfl rfl rfl ?_;exact ae
def tK(n:Nat):List Tok->Int
 |[t,_]=>if t.at_=0/\t.rf=n then t.kind else 0
 |_=>0
def DR(l:List UInt8):oL l=if 4096 <l.length then 0 else tK l.length (qC l):=by
 unfold oL;split
 ·rfl
 ·unfold tK;split <;>simp_all
def LZ{n:Nat}{T:List Tok}(h:T.length≠2):tK n T=0:=
 match T,h with
 |[],_=>rfl
 |[_],_=>rfl
 |_::_::_::_,_=>rfl
def OZ{l:List UInt8}:Cl ah 161 [.t (.str (bs l))] [] (.t (.int .i64 (oL l))) []:=by
 have U:(bs l).size=l.length:=e9 l;refine Cl.aq rfl Tryz.func161 rfl rfl rfl ?_;by_cases h4:4096 <l.length
 ·
  have ks:=Pt h4;have I:oL l=0:=by rw[DR,if_pos h4]
  rw[I];exact ae
 ·
  have ks:=Pu (l:=l) (by omega);rw[DR,if_neg h4];obtain⟨T,D⟩:∃T,qC l=T:=⟨_,rfl⟩;rw[D]at ks⊢;by_cases u:T.length=2
  ·
   obtain⟨a,b,rfl⟩:∃a b,T=[a,b]:=match T,u with|[a,b],_=>⟨a,b,rfl⟩
   have y:(([a,b]:List Tok).length:Int)=2:=rfl;have G:(mb [a,b])[0]?=some [.int .i64 a.kind,.int .i64 (a.zx:Int),.int .i64 (a.at_:Int),.int .i64 (a.rf:Int)]:=rfl;have v:tK l.length [a,b]=if a.at_=0/\a.rf=l.length then a.kind else 0:=rfl
   rw[v];by_cases h1:a.at_=0
   ·
    by_cases h2:a.rf=l.length
    ·
     rw[if_pos ⟨h1,h2⟩];exact ae
    ·
     rw[if_neg (fun h=>h2 h.2)];exact ae
   ·
    rw[if_neg (fun h=>h1 h.1)];exact ae
  ·
   have z:tK l.length T=0:=LZ u;rw[z];have J:¬((T.length:Int)=2):=by omega
   exact ae
def FQ(s:ByteArray):Cl ah 122 [.t (.str s)] [] (.t (.bool (gE s))) []:=by
 rw[<- Ck s];generalize s.data.toList=l;have y:(bs l).size=l.length:=e9 l;have u:gE (bs l)=oU l:=by unfold gE;simp[bs]
 rw[u];have z:=OZ (l:=l);refine Cl.aq rfl Tryz.func122 rfl rfl rfl ?_
 repeat'(first
|((with_reducible apply aa.aX)<;>intro v)
|((with_reducible apply aa.bi)<;>intro v)
|(refine ar ?_)
|((with_reducible apply aa.aB);(case hW=>exact rfl);(case hx=>exact af))
|((with_reducible apply aa.u0);(case hx=>first
|(exact ap z)
|exact af))
|fail)
 all_goals(refine a_ (.inr rfl) rfl ?_;unfold oU;simp_all <;>omega)
def Ge{S:List Int}(hl:S.length<=140737488351232):Cl ah 120 [.t (ay S)] [] (.t (.bool (cx S))) []:=by
 refine Cl.aq rfl Tryz.func120 rfl rfl rfl ?_;refine ak ?_;refine ax.ind (fun q:Nat=>[(3,.t (.int .i64 (q:Int)))]) (fun q=>q<=S.length/\cx S=cx (S.drop q)) (fun q=>S.length - q) 0 rfl ⟨by omega,rfl⟩ (fun q u=>?_);obtain⟨h1,h2⟩:=u;rcases Nat.lt_or_ge q S.length with h3|h3
 ·
  obtain⟨n,v⟩:=aj h3;have D:=aW v;have y:cx (S.drop q)=((decide (1<=n)&&decide (n<=6))&&cx (S.drop (q+1))):=i_ _ v;rw[h2,y]
  repeat'(first
|((with_reducible apply aa.aR);(case hp=>exact aA))
|((with_reducible apply aa.aX)<;>intro u)
|((with_reducible apply aa.bi)<;>intro u)
|(refine ar ?_)
|((with_reducible apply aa.aB);(case hW=>exact rfl);(case hx=>exact af))
|((with_reducible apply aa.u0);(case hx=>exact af))
|fail)
  all_goals first
   |exact a_ (.inr rfl) rfl (by rw[decide_eq_false (show¬1<=n by omega)];rfl)
   |exact a_ (.inr rfl) rfl (by rw[decide_eq_false (show¬n<=6 by omega)];simp)
   |exact⟨q+1,rfl,rfl,⟨by omega,by rw[decide_eq_true (show 1<=n by omega),decide_eq_true (show n<=6 by omega)];rfl⟩,by omega⟩
 ·
  have z:cx (S.drop q)=true:=g_ _ h3;rw[h2,z];exact ae
def w8(k:Int):Cl ah 123 [.t (.int .i64 k)] [] (.t (.bool (bA k))) []:=by
 refine Cl.aq rfl Tryz.func123 rfl rfl rfl ?_
 repeat'(first
|((with_reducible apply aa.aX)<;>intro u)
|((with_reducible apply aa.bi)<;>intro u)
|(refine ar ?_)
|((with_reducible apply aa.aB);(case hW=>exact rfl);(case hx=>exact af))
|((with_reducible apply aa.u0);(case hx=>exact af))
|fail)
 all_goals(refine a_ (.inr rfl) rfl ?_;unfold bA;first|(simp_all;done)|(simp_all;omega))
def wW{S C:List Int}(Z:S.length<=140737488351232)(hC:C.length<=140737488351232):Cl ah 121 [.t (ay S),.t (ay C)] [] (.t (.int .i64 (bG S C))) []:=by
 refine Cl.aq rfl Tryz.func121 rfl rfl rfl ?_;have V:=Ge Z;have ab:=aO S;by_cases h3:C.length<=3
 ·
  cases hs:cx S with
  |false=>
   rw[hs]at V;have z:bG S C=0:=by unfold bG;rw[if_neg (by simp[hs])]
   rw[z];exact ae
  |true=>
   rw[hs]at V;have z:bG S C=if C.all (cr S)=true then c6 S C else 0:=by unfold bG;simp[hs,h3]
   rw[z];refine ak ?_;refine ax.ind (fun q:Nat=>[(5,.t (.int .i64 (c6 S (C.take q)))),(6,.t (.int .i64 (q:Int)))]) (fun q=>q<=C.length/\(C.take q).all (cr S)=true) (fun q=>C.length - q) 0 rfl ⟨by omega,by simp⟩ (fun q hq=>?_);obtain⟨h1,h2⟩:=hq;rcases Nat.lt_or_ge q C.length with h4|h4
   ·
    obtain⟨c,v⟩:=aj h4;have hc:=aW v
    cases D:cr S c with
    |true=>
     have I:=mY hs (qW h2 v D) (by simp;omega);have y:=wP (S:=S) v;rw[y]at I;have u:=D;simp only[cr,Bool.and_eq_true,decide_eq_true_eq]at u;obtain⟨h0,U⟩:=u;obtain⟨s,G⟩:=aj (xs:=S) (k:=c.toNat) (by omega);have hg:=aW G;rw[fb G]at I y;obtain⟨p,hp⟩:∃p,c6 S (C.take q)=p:=⟨_,rfl⟩;rw[hp]at I y⊢;refine ak ?_;refine⟨q+1,?_,rfl,⟨by omega,qW h2 v D⟩,by omega⟩;rw[y];rfl
    |false=>
     have J:¬C.all (cr S)=true:=fun h=>by
      have:=List.all_eq_true.1 h c (List.mem_of_getElem? v);rw[D]at this;cases this
     rw[if_neg J]
     have u:c <0\/(S.length:Int)<=c:=by
      by_cases h:0<=c
      ·right
       simp only[cr,decide_eq_true h,Bool.true_and,decide_eq_false_iff_not]at D;omega
      ·exact .inl (by omega)
     rcases u with u|u
     ·
      exact ae
     ·
      exact ae
   ·
    have U:=sO h2 h4;rw[if_pos U,List.take_of_length_le h4];exact ae
 ·
  have z:bG S C=0:=by unfold bG;rw[if_neg (by simp[h3])]
  rw[z];exact ae
def Mc{S:List Int}{L:List Tb}(h:¬((S.length<=4/\cx S=true)/\L.length<=12)):bQ S L=false:=by
 rw[<- Bool.not_eq_true];intro u;apply h;simp only[bQ,Bool.and_eq_true,decide_eq_true_eq]at u;exact⟨⟨u.1.1,u.1.2.1⟩,u.1.2.2⟩
def kT(S:List Int)(L:List Tb)(q:Nat):Bool:=aL (iz S L) q (L.drop q)&&(decide (bp S true L<=128)&&decide (bp S false L<=64))
def Me{S:List Int}{L:List Tb}(h:(S.length<=4/\cx S=true)/\L.length<=12):bQ S L=kT S L 0:=by
 unfold bQ kT allI;simp[h.1.1,h.1.2,h.2]
def DY{S:List Int}{L:List Tb}{q:Nat}{t:Tb}(h:L[q]?=some t):kT S L q=(iz S L q t&&kT S L (q+1)):=by
 unfold kT;rw[qV h,Bool.and_assoc]
def Mf{S:List Int}{L:List Tb}{q:Nat}{t:Tb}(h:L[q]?=some t)(hb:¬iz S L q t=true):kT S L q=false:=by
 rw[DY h,Bool.not_eq_true _ |>.mp hb];rfl
def Mg{S:List Int}{L:List Tb}{q:Nat}{t:Tb}(h:L[q]?=some t)(hb:iz S L q t=true):kT S L q=kT S L (q+1):=by
 rw[DY h,hb];rfl
def Hh{S:List Int}{L:List Tb}{q:Nat}{t:Tb}:iz S L q t=true↔((L.take q).any fun u=>decide (u.name=t.name))=false/\gE t.name=true/\(0<=t.kind/\t.kind<=5)/\bG S t.av≠0/\((t.lo<=t.hi/\ -9999<=t.lo/\t.hi<=9999)/\(¬(t.kind=0\/t.kind=2\/t.kind=3)\/(t.lo=0/\t.hi=1)))/\t.first=bp S (bA t.kind) (L.take q):=by
 unfold iz r_;simp only[Bool.and_eq_true,Bool.or_eq_true,Bool.not_eq_true',decide_eq_true_eq,decide_eq_false_iff_not,Bool.or_eq_false_iff,not_or,ne_eq]
def AQ{S:List Int}{L:List Tb}(hS:S.length<=140737488351232)(hL:L.length<=140737488351232)(hC:∀t∈L,t.av.length<=140737488351232):Cl ah 85 [.t (ay S),.t (.arr (bq L))] [] (.t (.bool (bQ S L))) []:=by
 refine Cl.aq rfl Tryz.func85 rfl rfl rfl ?_;have kS:=Ge hS;have aG:=aO S;have aD:=fJ L;by_cases h0:(S.length<=4/\cx S=true)/\L.length<=12
 ·
  rw[Me h0];obtain⟨⟨h4,hs⟩,ao⟩:=h0;rw[hs]at kS;refine ak ?_;refine ax.ind (fun q:Nat=>[(5,.t (.int .i64 (bp S true (L.take q)))),(6,.t (.int .i64 (bp S false (L.take q)))),(7,.t (.int .i64 (q:Int)))]) (fun q=>q<=L.length/\kT S L 0=kT S L q) (fun q=>L.length - q) 0 rfl ⟨by omega,rfl⟩ (fun q I=>?_);obtain⟨h1,h2⟩:=I;rw[h2];rcases Nat.lt_or_ge q L.length with h3|h3
  ·
   obtain⟨t,V⟩:=aj h3;have hc:=fo V;have kn:=FQ t.name;have kN:=wW (S:=S) (C:=t.av) hS (hC t (List.mem_of_getElem? V));have U:=w8 t.kind;have v:=Mf (S:=S) V;have z:=Mg (S:=S) V;rw[Hh]at v z;have G:=rc (S:=S) true V;have D:=rc (S:=S) false V;have ab:=ky (S:=S) true (L.take q);have Z:=ky (S:=S) false (L.take q);have ad:=mS S t.av;have ag:(L.take q).length=q:=by simp;omega
   rw[ag]at ab Z;obtain⟨a,ha⟩:∃a,bp S true (L.take q)=a:=⟨_,rfl⟩;obtain⟨b,hb⟩:∃b,bp S false (L.take q)=b:=⟨_,rfl⟩;obtain⟨N,hN⟩:∃N,bG S t.av=N:=⟨_,rfl⟩;rw[ha]at G ab⊢;rw[hb]at D Z⊢;rw[hN]at G D ad kN v z;refine ak ?_;refine ax.ind (fun k:Nat=>[(9,.t (.int .i64 (k:Int)))]) (fun k=>k<=q/\((L.take q).any fun u=>decide (u.name=t.name))=(((L.take q).drop k).any fun u=>decide (u.name=t.name))) (fun k=>q - k) 0 rfl ⟨by omega,rfl⟩ (fun k hk=>?_);obtain⟨g1,g2⟩:=hk;rcases Nat.lt_or_ge k q with g3|g3
   ·
    obtain⟨u,hu⟩:=aj (xs:=L) (k:=k) (by omega);have au:=fo hu;have al:(L.take q)[k]?=some u:=by rw[List.getElem?_take,if_pos g3,hu]
    have hh:=oe (fun u:Tb=>decide (u.name=t.name)) al;by_cases he:u.name=t.name
    ·
     rw[decide_eq_true he,Bool.true_or]at hh;rw[v (fun h=>by rw[g2,hh]at h;cases h.1)];exact ae
    ·
     rw[decide_eq_false he,Bool.false_or]at hh;refine ak ?_;exact⟨k+1,rfl,rfl,⟨by omega,by rw[g2,hh]⟩,by omega⟩
   ·
    have J:((L.take q).any fun u=>decide (u.name=t.name))=false:=by rw[g2];exact od _ (by omega)
    obtain⟨nb,ai⟩:∃nb,gE t.name=nb:=⟨_,rfl⟩;rw[ai]at kn v z
    cases nb with
    |false=>
     rw[v (fun h=>by cases h.2.1)];exact ae
    |true=>
     cases y:bA t.kind with
     |true=>
      rw[y,ha]at v z;rw[y]at U;rw[y,if_pos rfl]at G;rw[y,if_neg (by decide)]at D
      repeat'(first
|((with_reducible apply aa.cQ);(case hp=>exact aA))
|((with_reducible apply aa.aX)<;>intro I)
|((with_reducible apply aa.gm)<;>intro I)
|((with_reducible apply aa.bi)<;>intro I)
|((with_reducible apply aa.fj)<;>intro I)
|(refine ar ?_)
|((with_reducible apply aa.aB);(case hW=>exact rfl);(case hx=>exact af))
|((with_reducible apply aa.u0);(case hx=>first
|(exact ap kN)
|(exact ap kn)
|(exact ap U)
|exact af))
|fail)
      all_goals first
       |exact a_ (.inr rfl) rfl (Eq.symm (v (fun h=>by obtain⟨_,_,_,_,_,_⟩:=h;omega)))
       |(refine⟨q+1,?_,rfl,⟨by omega,z ⟨J,rfl,by omega,by omega,by omega,by omega⟩⟩,by omega⟩;rw[G,D];rfl)
     |false=>
      rw[y,hb]at v z;rw[y]at U;rw[y,if_neg (by decide)]at G;rw[y,if_pos rfl]at D
      repeat'(first
|((with_reducible apply aa.cQ);(case hp=>exact aA))
|((with_reducible apply aa.aX)<;>intro I)
|((with_reducible apply aa.gm)<;>intro I)
|((with_reducible apply aa.bi)<;>intro I)
|((with_reducible apply aa.fj)<;>intro I)
|(refine ar ?_)
|((with_reducible apply aa.aB);(case hW=>exact rfl);(case hx=>exact af))
|((with_reducible apply aa.u0);(case hx=>first
|(exact ap kN)
|(exact ap kn)
|(exact ap U)
|exact af))
|fail)
      all_goals first
       |exact a_ (.inr rfl) rfl (Eq.symm (v (fun h=>by obtain⟨_,_,_,_,_,_⟩:=h;omega)))
       |(refine⟨q+1,?_,rfl,⟨by omega,z ⟨J,rfl,by omega,by omega,by omega,by omega⟩⟩,by omega⟩;rw[G,D];rfl)
  ·
   have he:kT S L q=(decide (bp S true L<=128)&&decide (bp S false L<=64)):=by
    unfold kT;rw[cU h3];rfl
   rw[he,List.take_of_length_le h3]
   repeat'(first
|((with_reducible apply aa.cQ);(case hp=>exact aA))
|((with_reducible apply aa.aX)<;>intro I)
|((with_reducible apply aa.bi)<;>intro I)
|(refine ar ?_)
|((with_reducible apply aa.aB);(case hW=>exact rfl);(case hx=>exact af))
|((with_reducible apply aa.u0);(case hx=>exact af))
|fail)
   all_goals(refine a_ (.inr rfl) rfl ?_;simp;omega)
 ·
  rw[Mc h0]
  cases hs:cx S with
  |true=>
   rw[hs]at kS;have an:¬(S.length<=4/\L.length<=12):=fun h=>h0 ⟨⟨h.1,hs⟩,h.2⟩
   repeat'(first
|((with_reducible apply aa.ee);(case hp=>exact aA))
|((with_reducible apply aa.aX)<;>intro I)
|(refine ar ?_)
|((with_reducible apply aa.aB);(case hW=>exact rfl);(case hx=>first
|(exact ap kS)
|exact af))
|((with_reducible apply aa.u0);(case hx=>exact af))
|fail)
   all_goals first
    |exact⟨.inr rfl,rfl⟩
    |(exfalso;omega)
  |false=>
   rw[hs]at kS;exact ae
section
variable {g:Cfg} {d:Option (List Nat)} {env:Env} {fr:Fr} {i:Nat}
def ac.fZ{t:TypeId}{x:Operand}{m:Int}(hx:rd env x=.t (.int .i64 m))(h : -9223372036854775808<=0 - m/\0 - m<=9223372036854775807):ac g d i env fr (.unOp .neg t x) (.t (.int .i64 (0 - m))) fr []:=.p rfl rfl (by
 unfold bP;simp only[hx,ya,IntWalk.i64_in _ h])
def ac.xB{xt yt:TypeId}{x y:Operand}{m n:Int}(hx:rd env x=.t (.int .i64 m))(hy:rd env y=.t (.int .i64 n)):ac g d i env fr (.binOp .sub xt x y yt) (.t (.int .i64 (IntKind.wrap .i64 (m - n)))) fr []:=
 .lu hx hy (by unfold h_;simp only[if_true,kJ])
end
def xW:ah.P.eqGuardType ah.P.depth 90=false:=by kernel_rfl
def xV(a b u v:Int):gy ah.P 20 90 [.int .i64 a,.int .i64 b] [.int .i64 u,.int .i64 v]=some (decide (a=u)&&(decide (b=v)&&true)):=by kernel_rfl
def Py{A B:List Tm}(V:A.length<=140737488351232)(Z:B.length<=140737488351232):Cl ah 163 [.t (.arr (eg A)),.t (.arr (eg B))] [] (.t (.bool (decide (A=B)))) []:=by
 refine Cl.aq rfl Tryz.func163 rfl rfl rfl ?_;have G:=mf A;have I:=mf B;by_cases D:A.length=B.length
 ·
  have U:decide (A=B)=decide (A.drop 0=B.drop 0):=rfl;refine ak ?_;refine ax.ind (fun q:Nat=>[(5,.t (.int .i64 (q:Int)))]) (fun q=>q<=A.length/\decide (A=B)=decide (A.drop q=B.drop q)) (fun q=>A.length - q) 0 rfl ⟨by omega,rfl⟩ (fun q J=>?_);obtain⟨h1,h2⟩:=J;rw[h2];rcases Nat.lt_or_ge q A.length with h3|h3
  ·
   obtain⟨x,hx⟩:=aj h3;obtain⟨y,hy⟩:=aj (xs:=B) (k:=q) (by omega);have hc:=nj hx;have hd:=nj hy;by_cases z:x=y
   ·
    have u:decide (A.drop q=B.drop q)=decide (A.drop (q+1)=B.drop (q+1)):=by rw[bK hx,bK hy,z];simp
    have v:gy ah.P 20 90 [.int .i64 x.cell,.int .i64 x.bU] [.int .i64 y.cell,.int .i64 y.bU]=some true:=by rw[xV,z];simp
    repeat'(first
|((with_reducible apply aa.aR);(case hp=>exact aA))
|(refine ar ?_)
|((with_reducible apply aa.u0);(case hx=>first
|((with_reducible apply ac.qv);(case hx|hy=>exact rfl);(case hg=>exact xW);(case ht=>exact rfl);(case hr=>exact v))
|exact af))
|fail)
    exact⟨q+1,rfl,rfl,⟨by omega,u⟩,by omega⟩
   ·
    have u:decide (A.drop q=B.drop q)=false:=by rw[bK hx,bK hy];simp[z]
    have v:gy ah.P 20 90 [.int .i64 x.cell,.int .i64 x.bU] [.int .i64 y.cell,.int .i64 y.bU]=some false:=by
     rw[xV];obtain⟨x1,x2⟩:=x;obtain⟨y1,y2⟩:=y;simp at z⊢;exact z
    rw[u]
    repeat'(first
|((with_reducible apply aa.aR);(case hp=>exact aA))
|(refine ar ?_)
|((with_reducible apply aa.u0);(case hx=>first
|((with_reducible apply ac.qv);(case hx|hy=>exact rfl);(case hg=>exact xW);(case ht=>exact rfl);(case hr=>exact v))
|exact af))
|fail)
    exact⟨.inr rfl,rfl⟩
  ·
   have u:decide (A.drop q=B.drop q)=true:=by rw[ez h3,ez (l:=B) (by omega)];rfl
   rw[u];exact ae
 ·
  have u:decide (A=B)=false:=by simp;intro h;exact D (by rw[h])
  rw[u];exact ae
def Gc{A B:Rw}(z:A.a8.length<=140737488351232)(D:B.a8.length<=140737488351232):Cl ah 126 [.t (.agg (eU A)),.t (.agg (eU B))] [] (.t (.bool (decide (A=B)))) []:=by
 obtain⟨T,n⟩:=A;obtain⟨U,m⟩:=B;have I:=Py (A:=T) (B:=U) z D;have v:eU ⟨T,n⟩=[.arr (eg T),.int .i64 n]:=rfl;have y:eU ⟨U,m⟩=[.arr (eg U),.int .i64 m]:=rfl;rw[v,y];refine Cl.aq rfl Tryz.func126 rfl rfl rfl ?_;by_cases h1:n=m
 ·
  have u:decide ((⟨T,n⟩:Rw)=⟨U,m⟩)=decide (T=U):=by simp[h1]
  rw[u];obtain⟨b,G⟩:∃b,decide (T=U)=b:=⟨_,rfl⟩;rw[G]at I⊢
  cases b with
  |true=>
   exact ae
  |false=>
   exact ae
 ·
  have u:decide ((⟨T,n⟩:Rw)=⟨U,m⟩)=false:=by simp[h1]
  rw[u];exact ae
def EZ(L:List ByteArray):qx 1 (bX L)=true:=by
 cases L <;>rfl
def Hl(L:List ByteArray)(k:Nat):(bX L).take k=(L.take k).map fun s=>[.str s]:=by simp[bX,List.map_take]
def CQ{L:List ByteArray}{q:Nat}{s:ByteArray}(h:L[q]?=some s)(hb:¬(gE s=true/\((L.take q).any fun u=>decide (u=s))=false)):aL (jC L) q (L.drop q)=false:=by
 rw[qV h]
 have:jC L q s=false:=by
  rw[<- Bool.not_eq_true];intro v;simp only[jC,Bool.and_eq_true,Bool.not_eq_true']at v;exact hb v
 rw[this];rfl
def CR{L:List ByteArray}{q:Nat}{s:ByteArray}(h:L[q]?=some s)(h1:gE s=true)(h2:((L.take q).any fun u=>decide (u=s))=false):aL (jC L) q (L.drop q)=aL (jC L) (q+1) (L.drop (q+1)):=by
 rw[qV h];unfold jC;rw[h1,h2];rfl
def FD{L:List ByteArray}(hl:L.length<=140737488351232):Cl ah 86 [.t (.arr (bX L))] [] (.t (.bool (gP L))) []:=by
 have I:=nM L;have J:gP L=aL (jC L) 0 (L.drop 0):=rfl;rw[J];refine Cl.aq rfl Tryz.func86 rfl rfl rfl ?_;refine ak ?_;refine ax.ind (fun q:Nat=>[(3,.t (.int .i64 (q:Int)))]) (fun q=>q<=L.length/\aL (jC L) 0 (L.drop 0)=aL (jC L) q (L.drop q)) (fun q=>L.length - q) 0 rfl ⟨by omega,rfl⟩ (fun q U=>?_);obtain⟨h1,h2⟩:=U;rw[h2];rcases Nat.lt_or_ge q L.length with h3|h3
 ·
  obtain⟨s,hs⟩:=aj h3;have V:=EP hs;have D:=FQ s;have z:=FJ (L:=L.take q) (s:=s) (by simp;omega);have v:=CQ hs;have G:=CR hs
  cases hn:gE s with
  |false=>
   rw[hn]at D;rw[v (fun h=>by rw[hn]at h;cases h.1)];exact ae
  |true=>
   rw[hn]at D
   cases y:(L.take q).any fun u=>decide (u=s)with
   |true=>
    rw[y]at z;rw[v (fun h=>by rw[y]at h;cases h.2)]
    repeat'(first
|((with_reducible apply aa.aR);(case hp=>exact aA))
|(refine ar ?_)
|((with_reducible apply aa.aB);(case hW=>exact rfl);(case hx=>first
|((with_reducible apply ac.GV);(case he|hx|hi=>exact rfl);(case hn=>(rw[I];omega));(case hz=>exact EZ _);(case hv=>exact Hl _ _))
|(exact ap z)
|exact af))
|((with_reducible apply aa.u0);(case hx=>first
|(exact ap D)
|exact af))
|fail)
    exact⟨.inr rfl,rfl⟩
   |false=>
    rw[y]at z
    repeat'(first
|((with_reducible apply aa.aR);(case hp=>exact aA))
|(refine ar ?_)
|((with_reducible apply aa.aB);(case hW=>exact rfl);(case hx=>first
|((with_reducible apply ac.GV);(case he|hx|hi=>exact rfl);(case hn=>(rw[I];omega));(case hz=>exact EZ _);(case hv=>exact Hl _ _))
|(exact ap z)
|exact af))
|((with_reducible apply aa.u0);(case hx=>first
|(exact ap D)
|exact af))
|fail)
    exact⟨q+1,rfl,rfl,⟨by omega,G hn y⟩,by omega⟩
 ·
  rw[cU h3];exact ae
def Ot(n:Int):Cl ah 129 [.t (.int .i64 n),.t (.int .i64 1000)] [] (.t (.bool (cH n 1000))) []:=by
 refine Cl.aq rfl Tryz.func129 rfl rfl rfl ?_
 repeat'(first
|((with_reducible apply aa.aX)<;>intro u)
|((with_reducible apply aa.bi)<;>intro u)
|(refine ar ?_)
|((with_reducible apply aa.aB);(case hW=>exact rfl);(case hx=>exact af))
|((with_reducible apply aa.u0);(case hx=>first
|((with_reducible apply ac.fZ);(case hx=>exact rfl);(case h=>omega))
|exact af))
|fail)
 all_goals(refine a_ (.inr rfl) rfl ?_;unfold cH;first|(simp_all;done)|(simp_all;omega))
def Ou(n:Int):Cl ah 129 [.t (.int .i64 n),.t (.int .i64 9999)] [] (.t (.bool (cH n 9999))) []:=by
 refine Cl.aq rfl Tryz.func129 rfl rfl rfl ?_
 repeat'(first
|((with_reducible apply aa.aX)<;>intro u)
|((with_reducible apply aa.bi)<;>intro u)
|(refine ar ?_)
|((with_reducible apply aa.aB);(case hW=>exact rfl);(case hx=>exact af))
|((with_reducible apply aa.u0);(case hx=>first
|((with_reducible apply ac.fZ);(case hx=>exact rfl);(case h=>omega))
|exact af))
|fail)
 all_goals(refine a_ (.inr rfl) rfl ?_;unfold cH;first|(simp_all;done)|(simp_all;omega))
def FA(n:Int):Cl ah 129 [.t (.int .i64 n),.t (.int .i64 1000000000)] [] (.t (.bool (cH n 1000000000))) []:=by
 refine Cl.aq rfl Tryz.func129 rfl rfl rfl ?_
 repeat'(first
|((with_reducible apply aa.aX)<;>intro u)
|((with_reducible apply aa.bi)<;>intro u)
|(refine ar ?_)
|((with_reducible apply aa.aB);(case hW=>exact rfl);(case hx=>exact af))
|((with_reducible apply aa.u0);(case hx=>first
|((with_reducible apply ac.fZ);(case hx=>exact rfl);(case h=>omega))
|exact af))
|fail)
 all_goals(refine a_ (.inr rfl) rfl ?_;unfold cH;first|(simp_all;done)|(simp_all;omega))
def Q9{n:Int}{l:List Tm}{i:Nat}{t:Tm}:fK n l i t=true↔(0<=t.cell/\t.cell <n)/\(i=0\/(l.getD (i - 1) ⟨0,0⟩).cell <t.cell)/\t.bU≠0/\cH t.bU 1000=true:=by
 unfold fK;simp only[Bool.and_eq_true,Bool.or_eq_true,Bool.not_eq_true',decide_eq_true_eq,decide_eq_false_iff_not,ne_eq]
section
variable {α:Type} {p:Nat->α->Bool} {l:List α} {q:Nat} {x:α}
def dB(h:l[q]?=some x)(hb:¬p q x=true):aL p q (l.drop q)=false:=by
 rw[qV h,Bool.not_eq_true _ |>.mp hb];rfl
def dC(h:l[q]?=some x)(hb:p q x=true):aL p q (l.drop q)=aL p (q+1) (l.drop (q+1)):=by
 rw[qV h,hb];rfl
end
def Gb{n:Int}{r:Rw}(hl:r.a8.length<=140737488351232):Cl ah 127 [.t (.agg (eU r)),.t (.int .i64 n)] [] (.t (.bool (cD n r))) []:=by
 obtain⟨T,B⟩:=r;have e1:eU ⟨T,B⟩=[.arr (eg T),.int .i64 B]:=rfl;have e2:cD n ⟨T,B⟩=(aL (fK n T) 0 (T.drop 0)&&cH B 1000000000):=rfl;rw[e1,e2];have hl:T.length<=140737488351232:=hl;have hT:=mf T;have kB:=FA B;refine Cl.aq rfl Tryz.func127 rfl rfl rfl ?_;refine ak ?_;refine ax.ind (fun q:Nat=>[(5,.t (.int .i64 (q:Int)))]) (fun q=>q<=T.length/\aL (fK n T) 0 (T.drop 0)=aL (fK n T) q (T.drop q)) (fun q=>T.length - q) 0 rfl ⟨by omega,rfl⟩ (fun q z=>?_);obtain⟨h1,h2⟩:=z;rw[h2];rcases Nat.lt_or_ge q T.length with h3|h3
 ·
  obtain⟨t,J⟩:=aj h3;have hc:=nj J;have U:=Ot t.bU;have v:=dB (p:=fK n T) J;have y:=dC (p:=fK n T) J;rw[Q9]at v y;obtain⟨V,D⟩:∃b,cH t.bU 1000=b:=⟨_,rfl⟩;rw[D]at U v y
  cases q with
  |zero=>
   cases V with
   |false=>
    rw[v (fun h=>by cases h.2.2.2)];exact ae
   |true=>
    repeat'(first
|(refine aY ?_)
|((with_reducible apply aa.aX)<;>intro z)
|((with_reducible apply aa.bi)<;>intro z)
|(refine ar ?_)
|((with_reducible apply aa.aB);(case hW=>exact rfl);(case hx=>first
|(exact ap U)
|exact af))
|((with_reducible apply aa.u0);(case hx=>exact af))
|fail)
    all_goals first
     |exact a_ (.inr rfl) rfl (by rw[v (fun h=>by obtain⟨_,_,_,_⟩:=h;omega)];rfl)
     |exact⟨0+1,rfl,rfl,⟨by omega,y ⟨by omega,.inl rfl,by omega,rfl⟩⟩,by omega⟩
  |succ k=>
   obtain⟨u,hu⟩:=aj (xs:=T) (k:=k) (by omega);have G:=nj hu;have Z:(eg T)[((k+1:Nat) - 1:Int).toNat]?=some [.int .i64 u.cell,.int .i64 u.bU]:=by rw[show((k+1:Nat) - 1:Int).toNat=k by omega];exact G
   have I:T.getD (k+1 - 1) ⟨0,0⟩=u:=by rw[Nat.add_sub_cancel,List.getD_eq_getElem?_getD,hu];rfl
   rw[I]at v y
   cases V with
   |false=>
    rw[v (fun h=>by cases h.2.2.2)];exact ae
   |true=>
    repeat'(first
|(refine aY ?_)
|((with_reducible apply aa.aX)<;>intro z)
|((with_reducible apply aa.bi)<;>intro z)
|(refine ar ?_)
|((with_reducible apply aa.aB);(case hW=>exact rfl);(case hx=>first
|(exact ap U)
|exact af))
|((with_reducible apply aa.u0);(case hx=>exact af))
|fail)
    all_goals first
     |exact a_ (.inr rfl) rfl (by rw[v (fun h=>by obtain⟨_,_,_,_⟩:=h;omega)];rfl)
     |exact⟨k+1+1,rfl,rfl,⟨by omega,y ⟨by omega,.inr (by omega),by omega,rfl⟩⟩,by omega⟩
 ·
  rw[cU h3];exact ae
set_option maxRecDepth 100000
set_option maxHeartbeats 16000000
def FI(l m:List (Int×Int)):bR l++bR m=bR (l++m):=by unfold bR;rw[List.map_append]
def Mo{n:Nat}(h:n<=4000):b6 n 16=true:=by simp[b6];omega
def jT(S:List Int)(L:List Tb)(s:Bool)(q k:Nat)(t:Tb):List (Int×Int):=(L.take q).flatMap (eQ S s)++List.replicate k (t.lo,t.hi)
def O7{S:List Int}{L:List Tb}{s:Bool}{q k:Nat}{t:Tb}:jT S L s q k t++[(t.lo,t.hi)]=jT S L s q (k+1) t:=by
 unfold jT;rw[FH,List.append_assoc]
def O6{S:List Int}{L:List Tb}{s:Bool}{q k:Nat}{t:Tb}(ht:L[q]?=some t)(hs:bA t.kind=s)(hk:(bG S t.av).toNat=k):jT S L s q k t=(L.take (q+1)).flatMap (eQ S s):=by
 unfold jT;rw[tw ht];unfold eQ;rw[if_pos hs,hk]
def FR{S:List Int}{L:List Tb}{s:Bool}{q:Nat}{t:Tb}(ht:L[q]?=some t)(hs:bA t.kind≠s):(L.take q).flatMap (eQ S s)=(L.take (q+1)).flatMap (eQ S s):=by
 rw[tw ht];unfold eQ;rw[if_neg hs,List.append_nil]
def Ps{S:List Int}{L:List Tb}(s:Bool)(hS:S.length<=140737488351232)(hL:L.length<=140737488351232)(hC:∀t∈L,t.av.length<=140737488351232):Cl ah 162 [.t (ay S),.t (.arr (bq L)),.t (.bool s)] [] (.ls 0) [.row false false 2 (bR (bH S L s))]:=by
 have kv:=AQ hS hL hC;have ag:=aO S;have ad:=fJ L
 cases hv:bQ S L with
 |false=>
  have hr:bH S L s=[]:=by unfold bH;rw[hv];rfl
  rw[hv]at kv;rw[hr];refine Cl.aq rfl Tryz.func162 rfl rfl rfl ?_;exact ae
 |true=>
  have hr:bH S L s=L.flatMap (eQ S s):=by unfold bH;rw[hv];rfl
  have ab:=jk hv;rw[hv]at kv;rw[hr];refine Cl.aq rfl Tryz.func162 rfl rfl rfl ?_;refine ak ?_;refine ax.cA (fun x:Nat×Bool=>[(7,.ls 0),(8,.t (.int .i64 (x.1:Int)))]) (fun x=>[.row false x.2 2 (bR ((L.take x.1).flatMap (eQ S s)))]) (fun x=>x.1<=L.length) (fun x=>L.length - x.1) (0,false) rfl rfl (by simp) (fun x hq=>?_);obtain⟨q,z⟩:=x;dsimp only at hq⊢;rcases Nat.lt_or_ge q L.length with h3|h3
  ·
   obtain⟨t,ht⟩:=aj h3;have hc:=fo ht;have kN:=wW (S:=S) (C:=t.av) hS (hC t (List.mem_of_getElem? ht));have v:=w8 t.kind;have I:=mS S t.av;have ai:=FU S s (L.take q);have al:(L.take q).length<=12:=by simp;omega
   by_cases hs:bA t.kind=s
   ·
    rw[hs]at v;obtain⟨N,hN⟩:∃N,(bG S t.av).toNat=N:=⟨_,rfl⟩;have G:bG S t.av=(N:Int):=by omega
    have y:=O6 ht hs hN;rw[G]at kN I;have h0:(L.take q).flatMap (eQ S s)=jT S L s q 0 t:=by unfold jT;simp
    rw[h0];have J:∀k,(jT S L s q k t).length<=2592+k:=fun k=>by unfold jT;rw[List.length_append,List.length_replicate];omega
    refine ak ?_;refine ax.cA (fun x:Nat×Bool=>[(7,.ls 0),(9,.t (.int .i64 (x.1:Int)))]) (fun x=>[.row false x.2 2 (bR (jT S L s q x.1 t))]) (fun x=>x.1<=N) (fun x=>N - x.1) (0,z) rfl rfl (by simp) (fun x hk=>?_);obtain⟨k,D⟩:=x;dsimp only at hk⊢;rcases Nat.lt_or_ge k N with h4|h4
    ·
     have V:bR (jT S L s q k t)++[[.int .i64 t.lo,.int .i64 t.hi]]=bR (jT S L s q (k+1) t):=by rw[<- O7];exact FI _ [(t.lo,t.hi)]
     have U:b6 ((bR (jT S L s q k t)).length+1) 16=true:=by
      have:=J k;rw[k7];exact Mo (by omega)
     cases s <;>
     repeat'(first
|(with_reducible first|apply am.seq|apply am.block)
|((with_reducible apply am.text);(try case hm=>exact rfl))
|(with_reducible first|apply am.skip|apply dx)
|((with_reducible apply am.ew);(case hc=>exact rfl))
|((with_reducible apply aa.ee);(case hp=>exact aA))
|(with_reducible first|apply aa.cI|apply aa.eE)
|((with_reducible apply aa.u);(case hx=>((with_reducible apply ac.da);(case hs=>exact fun _=>rfl);(case ha|ht=>exact rfl);(case hr=>first|(with_reducible exact c7)|(with_reducible exact rw1)|(with_reducible exact c8)|(with_reducible exact rw3)|(with_reducible exact rw4)|exact rfl);(case hx|hy|hn|hb|hok=>exact rfl);(case hlen=>exact U);(case hv=>exact V);(case hk=>exact de);(case hf=>exact leq))))
|((with_reducible apply aa.aB);(case hW=>exact rfl);(case hx=>first
|(exact ap kN)
|exact af))
|((with_reducible apply aa.u0);(case hx=>first
|(exact ap v)
|exact af))
|fail)
     all_goals exact⟨(k+1,true),rfl,rfl,by dsimp only;omega,by dsimp only;omega⟩
    ·
     obtain rfl:k=N:=by omega
     rw[y];cases s <;>
     refine ak ?_
     all_goals exact⟨(q+1,D),rfl,rfl,by dsimp only;omega,by dsimp only;omega⟩
   ·
    have Z:bA t.kind=!s:=by cases s <;>simp_all
    rw[Z]at v;rw[FR ht hs];refine ak ?_;refine ax.step ?_;cases s <;>
    refine ak ?_
    all_goals exact⟨(q+1,z),rfl,rfl,by dsimp only;omega,by dsimp only;omega⟩
  ·
   rw[List.take_of_length_le h3];exact ae
def M3(fr:Fr)(m n:Int):iO ah.P fr 22 (.t (.int .i64 m)) (.t (.int .i64 n))=match decide (0<=m)&&decide (m<=n)&&Nat.ble (n.toNat*8) 281474976710656&&Nat.ble n.toNat 140737488351232 with
  |true=>some (.ls fr.length,fr++[.row false false 1 (List.replicate m.toNat [.int .i64 0])],[])
  |false=>none:=by kernel_rfl
def Ez{fr:Fr}{n:Nat}(h:n<=1000):iO ah.P fr 22 (.t (.int .i64 (n:Int))) (.t (.int .i64 (n:Int)))=some (.ls fr.length,fr++[.row false false 1 (aE (List.replicate n 0))],[]):=by
 have e:(decide (0<=(n:Int))&&decide ((n:Int)<=n)&&Nat.ble ((n:Int).toNat*8) 281474976710656&&Nat.ble (n:Int).toNat 140737488351232)=true:=by
  rw[Int.toNat_natCast];have h1:Nat.ble (n*8) 281474976710656=true:=by rw[Nat.ble_eq];omega
  have h2:Nat.ble n 140737488351232=true:=by rw[Nat.ble_eq];omega
  rw[h1,h2];simp
 rw[M3,e];simp[aE]
def Pd{S C:List Int}{K:Int}(hs:cx S=true)(hc:C.all (cr S)=true)(hS:S.length<=140737488351232)(hC:C.length<=3)(h0:0<=K)(hK:K<=1000):Cl ah 185 [.t (ay S),.t (ay C),.t (.int .i64 K)] [] (.ls 0) [.row false false 1 (aE (qw S C K))]:=by
 have ag:=aO S;have ad:=aO C;have hm:=Ez (fr:=[]) (n:=C.length) (by omega);have I:=aO (List.replicate C.length 0);rw[List.length_replicate]at I;refine Cl.aq rfl Tryz.func185 rfl rfl rfl ?_
 repeat'(first
|(refine ar ?_)
|((with_reducible apply aa.u0);(case hx=>first
|((with_reducible apply ac.ec);(case hs=>exact fun _=>rfl);(case hl|hc|hd=>exact rfl);(case hm=>exact hm);(case hf=>exact leq))
|exact af))
|fail)
 apply am.lK
 case ho=>exact rfl
 case hp=>exact rfl
 case hl=>exact rfl
 case hs=>exact slt
 refine ax.cA (fun x:Nat×Int×List Int=>[(2,.t (.int .i64 x.2.1)),(8,.t (.int .i64 ((x.1:Int) - 1)))]) (fun x=>[.row false false 1 (aE x.2.2)]) (fun x=>x.1<=C.length/\0<=x.2.1/\x.2.1<=1000/\x.2.2.length=C.length/\jl S C x.1 x.2.1 x.2.2=qw S C K) (fun x=>x.1) (C.length,K,List.replicate C.length 0) rfl rfl ⟨by dsimp only;omega,h0,hK,by simp,rfl⟩ (fun x hx=>?_);obtain⟨j,k,r⟩:=x;dsimp only at hx⊢;obtain⟨h1,h2,h3,h4,h5⟩:=hx
 cases j with
 |zero=>
  rw[<- h5];exact ae
 |succ j=>
  obtain⟨c,u⟩:=aj (xs:=C) (k:=j) (by omega);have ab:=aW u;have y:=List.all_eq_true.1 hc c (List.mem_of_getElem? u);obtain⟨g1,g2⟩:=vk hs y;simp only[cr,Bool.and_eq_true,decide_eq_true_eq]at y;obtain⟨g3,g4⟩:=y;obtain⟨s,z⟩:=aj (xs:=S) (k:=c.toNat) (by omega);have al:=aW z;rw[fb z]at g1 g2;obtain⟨v,hv⟩:=aj (xs:=r) (k:=j) (by omega);have V:=aW hv;have ai:=aO r;have ej:(((j+1:Nat):Int) - 1)=(j:Int):=by omega
  rw[ej];have J:(aE r)[((j:Nat):Int).toNat]?=some [.int .i64 v]:=by rw[Int.toNat_natCast];exact V
  have U:(aE r).set ((j:Nat):Int).toNat [.int .i64 (k.tmod s)]=aE (r.set j (k.tmod s)):=by rw[Int.toNat_natCast];simp[aE,List.map_set]
  have hd:0<=k.tdiv s/\k.tdiv s<=k:=by
   rw[Int.tdiv_eq_ediv_of_nonneg h2];exact⟨Int.ediv_nonneg h2 (by omega),Int.ediv_le_self _ h2⟩
  have G:jl S C (j+1) k r=jl S C j (k.tdiv s) (r.set j (k.tmod s)):=by
   have e1:C.getD j 0=c:=fb u;have e2:S.getD c.toNat 0=s:=fb z;rw[jl,e1,e2]
  obtain⟨Z,D⟩:∃Z,k.tdiv s=Z:=⟨_,rfl⟩;rw[D]at hd G
  repeat'(first
|((with_reducible apply aa.aR);(case hp=>exact aA))
|(refine ar ?_)
|((with_reducible apply aa.u0);(case hx=>first
|((with_reducible apply ac.lV);(case hx|hy=>exact rfl);(case hn=>omega);(case h=>exact rfl))
|((with_reducible apply ac.gT);(case hx|hy=>exact rfl);(case hn=>omega);(case h=>exact D);(case hb=>omega))
|((with_reducible apply ac.qE);(case hs=>exact fun _=>rfl);(case ha|hy|ht|hone=>exact rfl);(case hn=>kernel_rfl);(case hb=>exact rfl);(case hk=>exact J);(case hj=>exact rfl);(case hv=>exact U);(case hf=>exact leq))
|exact af))
|fail)
  exact⟨(j,Z,r.set j (k.tmod s)),rfl,rfl,⟨by dsimp only;omega,by dsimp only;omega,by dsimp only;omega,by simp[h4],by dsimp only;rw[<- G];exact h5⟩,by dsimp only;omega⟩
def tE{S:List Int}{s:Bool}{c:Int}{t:Tb}:ff S s c t=true↔bA t.kind=s/\0<=c/\0<=c - t.first/\c - t.first <bG S t.av:=by
 unfold ff;simp only[Bool.and_eq_true,decide_eq_true_eq]
def wk{S:List Int}{L:List Tb}(h:bQ S L=true){k:Nat}{t:Tb}(ht:L[k]?=some t):0<=t.first/\t.first<=5000:=by
 have h1:=rM h ht;simp only[iz,Bool.and_eq_true,decide_eq_true_eq]at h1;have h2:=ky (S:=S) (bA t.kind) (L.take k);have h3:=jk h;have h4:(L.take k).length<=L.length:=by simp;omega
 omega
def PA{S:List Int}{L:List Tb}{s:Bool}{c:Int}(hS:S.length<=140737488351232)(hL:L.length<=140737488351232)(hC:∀t∈L,t.av.length<=140737488351232)(hc:c<=9223372036854775807):match fI S L s c with
  |some (i,t)=>Cl ah 164 [.t (ay S),.t (.arr (bq L)),.t (.bool s),.t (.int .i64 c)] [] (.aJ [.t (.int .i64 (i:Int)),.ls 0,.t (.bool true)]) [.row false false 1 (aE (qw S t.av (c - t.first)))]
  |none=>Cl ah 164 [.t (ay S),.t (.arr (bq L)),.t (.bool s),.t (.int .i64 c)] [] (.aJ [.t (.int .i64 0),.nil,.t (.bool false)]) []:=by
 have kv:=AQ hS hL hC;have al:=aO S;have ai:=fJ L
 cases J:bQ S L with
 |false=>
  have hr:fI S L s c=none:=by unfold fI;rw[J];rfl
  rw[J]at kv;rw[hr];refine Cl.aq rfl Tryz.func164 rfl rfl rfl ?_;exact ae
 |true=>
  have hr:fI S L s c=fV (ff S s c) 0 L:=by unfold fI;rw[J];rfl
  rw[J]at kv;rw[hr]
  cases hf:fV (ff S s c) 0 L with
  |none=>
   show Cl ah 164 _ [] _ []
   refine Cl.aq rfl Tryz.func164 rfl rfl rfl ?_;refine ak ?_;refine ax.ind (fun q:Nat=>[(11,.t (.int .i64 (q:Int)))]) (fun q=>q<=L.length/\fV (ff S s c) q (L.drop q)=none) (fun q=>L.length - q) 0 rfl ⟨by omega,hf⟩ (fun q V=>?_);obtain⟨h1,h2⟩:=V;rcases Nat.lt_or_ge q L.length with h3|h3
   ·
    obtain⟨t,D⟩:=aj h3;have ad:=fo D;have U:=wW (S:=S) (C:=t.av) hS (hC t (List.mem_of_getElem? D));have v:=w8 t.kind;obtain⟨f0,f1⟩:=wk J D;rw[vP D]at h2;obtain⟨N,Z⟩:∃N,bG S t.av=N:=⟨_,rfl⟩
    cases z:ff S s c t with
    |true=>rw[z]at h2;cases h2
    |false=>
     rw[z]at h2;have y:¬(bA t.kind=s/\0<=c/\0<=c - t.first/\c - t.first <bG S t.av):=fun h=>by rw[tE.2 h]at z;cases z
     rw[Z]at U y;by_cases hs:bA t.kind=s
     ·
      rw[hs]at v;by_cases h0:0<=c
      ·
       cases s <;>
       repeat'(first
|(refine aY ?_)
|((with_reducible apply aa.bi)<;>intro V)
|(refine ar ?_)
|((with_reducible apply aa.aB);(case hW=>exact rfl);(case hx=>first
|(exact ap U)
|exact af))
|((with_reducible apply aa.u0);(case hx=>first
|(exact ap v)
|exact af))
|fail)
       all_goals first
        |exact⟨q+1,rfl,rfl,⟨by omega,h2⟩,by omega⟩
        |(exfalso;apply y;exact⟨hs,by omega,by omega,by omega⟩)
      ·
       cases s <;>
       repeat'(first
|(refine aY ?_)
|(refine ar ?_)
|((with_reducible apply aa.aB);(case hW=>exact rfl);(case hx=>exact af))
|((with_reducible apply aa.u0);(case hx=>first
|((with_reducible apply ac.xB);(case hx|hy=>exact rfl))
|(exact ap v)
|exact af))
|fail)
       all_goals exact⟨q+1,rfl,rfl,⟨by omega,h2⟩,by omega⟩
     ·
      have I:bA t.kind=!s:=by cases s <;>simp_all
      rw[I]at v;cases s <;>
      repeat'(first
|((with_reducible apply aa.aR);(case hp=>exact aA))
|(refine ar ?_)
|((with_reducible apply aa.u0);(case hx=>first
|((with_reducible apply ac.xB);(case hx|hy=>exact rfl))
|(exact ap v)
|exact af))
|fail)
      all_goals exact⟨q+1,rfl,rfl,⟨by omega,h2⟩,by omega⟩
   ·
    exact ae
  |some it=>
   obtain⟨i,u⟩:=it;have ag:=xU hf;show Cl ah 164 _ [] _ _
   refine Cl.aq rfl Tryz.func164 rfl rfl rfl ?_;refine ak ?_;refine ax.ind (fun q:Nat=>[(11,.t (.int .i64 (q:Int)))]) (fun q=>q<=L.length/\fV (ff S s c) q (L.drop q)=some (i,u)) (fun q=>L.length - q) 0 rfl ⟨by omega,hf⟩ (fun q V=>?_);obtain⟨h1,h2⟩:=V;rcases Nat.lt_or_ge q L.length with h3|h3
   ·
    obtain⟨t,D⟩:=aj h3;have ad:=fo D;have U:=wW (S:=S) (C:=t.av) hS (hC t (List.mem_of_getElem? D));have v:=w8 t.kind;obtain⟨f0,f1⟩:=wk J D;obtain⟨c1,c2,c3⟩:=jL J D;have ab:=mS S t.av;rw[vP D]at h2;obtain⟨N,Z⟩:∃N,bG S t.av=N:=⟨_,rfl⟩
    cases z:ff S s c t with
    |true=>
     rw[z,if_pos rfl]at h2;obtain⟨rfl,rfl⟩:q=i/\t=u:=by cases h2;exact⟨rfl,rfl⟩
     have G:=tE.1 z;rw[Z]at U G ab;obtain⟨y1,y2,y3,y4⟩:=G;rw[y1]at v;have kt:=Pd (S:=S) (C:=t.av) (K:=c - t.first) c2 c3 hS c1 y3 (by omega);cases s <;>
     exact ae
    |false=>
     rw[z]at h2;have y:¬(bA t.kind=s/\0<=c/\0<=c - t.first/\c - t.first <bG S t.av):=fun h=>by rw[tE.2 h]at z;cases z
     rw[Z]at U y;by_cases hs:bA t.kind=s
     ·
      rw[hs]at v;by_cases h0:0<=c
      ·
       cases s <;>
       repeat'(first
|(refine aY ?_)
|((with_reducible apply aa.bi)<;>intro V)
|(refine ar ?_)
|((with_reducible apply aa.aB);(case hW=>exact rfl);(case hx=>first
|(exact ap U)
|exact af))
|((with_reducible apply aa.u0);(case hx=>first
|(exact ap v)
|exact af))
|fail)
       all_goals first
        |exact⟨q+1,rfl,rfl,⟨by omega,h2⟩,by omega⟩
        |(exfalso;apply y;exact⟨hs,by omega,by omega,by omega⟩)
      ·
       cases s <;>
       repeat'(first
|(refine aY ?_)
|(refine ar ?_)
|((with_reducible apply aa.aB);(case hW=>exact rfl);(case hx=>exact af))
|((with_reducible apply aa.u0);(case hx=>first
|((with_reducible apply ac.xB);(case hx|hy=>exact rfl))
|(exact ap v)
|exact af))
|fail)
       all_goals exact⟨q+1,rfl,rfl,⟨by omega,h2⟩,by omega⟩
     ·
      have I:bA t.kind=!s:=by cases s <;>simp_all
      rw[I]at v;cases s <;>
      repeat'(first
|((with_reducible apply aa.aR);(case hp=>exact aA))
|(refine ar ?_)
|((with_reducible apply aa.u0);(case hx=>first
|((with_reducible apply ac.xB);(case hx|hy=>exact rfl))
|(exact ap v)
|exact af))
|fail)
      all_goals exact⟨q+1,rfl,rfl,⟨by omega,h2⟩,by omega⟩
   ·
    exfalso;rw[De h3]at h2;cases h2
end Go.Proofs.YtjolgbkkocjpgaaGreatDoor
