/- The reference's scanning of a word,as contracts. No condition. -/
import Derived.Test.YtjolgbkkocjpgaaGreatDoorTL
import Derived.Test.YtjolgbkkocjpgaaGreatDoorTM
import Derived.Test.YtjolgbkkocjpgaaGreatDoorTS
import Derived.Test.YtjolgbkkocjpgaaGreatDoorTD
set_option linter.defProp false
set_option linter.unusedSimpArgs false
set_option linter.unusedVariables false
set_option linter.unusedSectionVars false
namespace Go.Proofs.YtjolgbkkocjpgaaGreatDoor
open Go.RowKit
set_option maxRecDepth 100000
set_option maxHeartbeats 16000000
def zp(t:Tok):List AV:=[.int .i64 t.kind,.int .i64 (t.yo:Int),.int .i64 (t.at_:Int),.int .i64 (t.ql:Int)]
def ll(l:List Tok):List (List AV):=l.map zp
def Ms{l:List UInt8}(hl:l.length<=4096):Cl ai 184 [.t (.str (bs l))] [] (.aL [.ls 0,.t (.int .i64 0)]) [.row false false 4 (ll (pd l))]:=by
 have U:(bs l).size=l.length:=eJ l;refine Cl.ao rfl Tryz.func184 rfl rfl rfl ?_;refine ar ?_;refine aC.cB (fun s:Nat×Bool×List Tok=>[(4,.ls 0),(5,.t (.int .i64 (s.1:Int)))]) (fun s=>[.row false s.2.1 4 (ll s.2.2)]) (fun s=>s.1<=l.length/\s.2.2.length<=s.1/\s.2.2++qo l s.1=pd l) (fun s=>l.length - s.1) (0,false,[]) rfl rfl ⟨by simp,by simp,rfl⟩ (fun s D=>?_);obtain⟨q,V,T⟩:=s;dsimp only at D⊢;obtain⟨h1,h2,h3⟩:=D;have ks:=La (q0:=q) (l:=l) (by omega) h1;have ha:=yq h1;have z:(ll T).length=T.length:=by simp[ll]
 rcases Nat.lt_or_ge (cM l q) l.length with h4|h4
 ·
  have G:=Le (l:=l) (by omega) h4;have J:=yr h4;have I:cM l q+(eS (l.drop (cM l q))).2=jl l q:=rfl;rw[I]at G;have v:ll T++[[.int .i64 (eS (l.drop (cM l q))).1,.int .i64 (q:Int),.int .i64 (cM l q:Int),.int .i64 (jl l q:Int)]]=ll (T++[⟨(eS (l.drop (cM l q))).1,q,cM l q,jl l q⟩]):=by simp[ll,zp]
  have y:=Jy h1 h4
  repeat'(first
|(with_reducible first|apply ac.seq|apply ac.block)
|((with_reducible apply ac.text);(try case hm=>exact rfl))
|(with_reducible first|apply ac.skip|apply az)
|((with_reducible apply ac.aA);(case hc=>exact rfl))
|((with_reducible apply aa.aE);(case hp=>exact aj))
|(with_reducible first|apply aa.ap|apply aa.bj)
|((with_reducible apply aa.u);(case hx=>((with_reducible apply ae.eP);(case hs=>exact fun _=>rfl);(case ha|ht=>exact rfl);(case hr=>first|(with_reducible exact eH)|(with_reducible exact rw1)|(with_reducible exact eI)|(with_reducible exact rw3)|(with_reducible exact rw4)|exact rfl);(case hx|hy|hn|hb|hok=>exact rfl);(case hlen=>exact vz (by rw[z];simp;omega) (by decide));(case hv=>exact v);(case hk=>exact eQ);(case hf=>exact leq))))
|((with_reducible apply aa.u0);(case hx=>first
|(exact aq ks)
|(exact aq G)
|exact ah))
|fail)
  refine⟨(jl l q,true,T++[⟨(eS (l.drop (cM l q))).1,q,cM l q,jl l q⟩]),rfl,rfl,⟨J.2,by simp;omega,?_⟩,by dsimp only;omega⟩;dsimp only;rw[List.append_assoc,List.singleton_append,<- y];exact h3
 ·
  have y:=Jz h1 (by omega);have v:ll T++[[.int .i64 0,.int .i64 (q:Int),.int .i64 (l.length:Int),.int .i64 (l.length:Int)]]=ll (pd l):=by rw[<- h3,y];simp[ll,zp]
  repeat'(first
|(with_reducible apply ac.seq)
|((with_reducible apply ac.text);(try case hm=>exact rfl))
|(with_reducible first|apply ac.exit|apply ac.ret|apply az|apply cR|apply cS)
|((with_reducible apply ac.aH);(case hc=>exact rfl))
|((with_reducible apply aa.bC);(case hp=>exact aj))
|(with_reducible apply aa.ap)
|((with_reducible apply aa.u);(case hx=>((with_reducible apply ae.eP);(case hs=>exact fun _=>rfl);(case ha|ht=>exact rfl);(case hr=>first|(with_reducible exact eH)|(with_reducible exact rw1)|(with_reducible exact eI)|(with_reducible exact rw3)|(with_reducible exact rw4)|exact rfl);(case hx|hy|hn|hb|hok=>exact rfl);(case hlen=>exact vz (by rw[z];simp;omega) (by decide));(case hv=>exact v);(case hk=>exact eQ);(case hf=>exact leq))))
|((with_reducible apply aa.u0);(case hx=>first
|(exact aq ks)
|exact ah))
|fail)
  exact⟨.inr rfl,rfl⟩
def Mt{l:List UInt8}(hl:4096 <l.length):Cl ai 184 [.t (.str (bs l))] [] (.aL [.nil,.t (.int .i64 8)]) []:=by
 have u:(bs l).size=l.length:=eJ l;refine Cl.ao rfl Tryz.func184 rfl rfl rfl ?_;exact af
def sQ(n:Nat):List Tok->Int
 |[t,_]=>if t.at_=0/\t.ql=n then t.kind else 0
 |_=>0
def D6(l:List UInt8):nK l=if 4096 <l.length then 0 else sQ l.length (pd l):=by
 unfold nK;split
 ·rfl
 ·unfold sQ;split <;>simp_all
def Mu{n:Nat}{T:List Tok}(h:T.length≠2):sQ n T=0:=
 match T,h with
 |[],_=>rfl
 |[_],_=>rfl
 |_::_::_::_,_=>rfl
def Mv{l:List UInt8}:Cl ai 161 [.t (.str (bs l))] [] (.t (.int .i64 (nK l))) []:=by
 have U:(bs l).size=l.length:=eJ l;refine Cl.ao rfl Tryz.func161 rfl rfl rfl ?_;by_cases h4:4096 <l.length
 ·
  have ks:=Mt h4;have I:nK l=0:=by rw[D6,if_pos h4]
  rw[I];exact af
 ·
  have ks:=Ms (l:=l) (by omega);rw[D6,if_neg h4];obtain⟨T,D⟩:∃T,pd l=T:=⟨_,rfl⟩;rw[D]at ks⊢;by_cases u:T.length=2
  ·
   obtain⟨a,b,rfl⟩:∃a b,T=[a,b]:=match T,u with|[a,b],_=>⟨a,b,rfl⟩
   have y:(([a,b]:List Tok).length:Int)=2:=rfl;have G:(ll [a,b])[0]?=some [.int .i64 a.kind,.int .i64 (a.yo:Int),.int .i64 (a.at_:Int),.int .i64 (a.ql:Int)]:=rfl;have v:sQ l.length [a,b]=if a.at_=0/\a.ql=l.length then a.kind else 0:=rfl
   rw[v];by_cases h1:a.at_=0
   ·
    by_cases h2:a.ql=l.length
    ·
     rw[if_pos ⟨h1,h2⟩];exact af
    ·
     rw[if_neg (fun h=>h2 h.2)];exact af
   ·
    rw[if_neg (fun h=>h1 h.1)];exact af
  ·
   have z:sQ l.length T=0:=Mu u;rw[z];have J:¬((T.length:Int)=2):=by omega
   exact af
def D7(s:ByteArray):Cl ai 122 [.t (.str s)] [] (.t (.bool (fR s))) []:=by
 rw[<- DI s];generalize s.data.toList=l;have y:(bs l).size=l.length:=eJ l;have u:fR (bs l)=nL l:=by unfold fR;simp[bs]
 rw[u];have z:=Mv (l:=l);refine Cl.ao rfl Tryz.func122 rfl rfl rfl ?_
 repeat'(first
|(with_reducible apply ac.seq)
|((with_reducible apply ac.text);(try case hm=>exact rfl))
|(with_reducible apply ac.ret)
|((with_reducible apply aa.bc)<;>intro v)
|((with_reducible apply aa.bg)<;>intro v)
|(with_reducible apply aa.ap)
|((with_reducible apply aa.gf);(case hW=>exact rfl))
|((with_reducible apply aa.aD);(case hW=>exact rfl);(case hx=>exact ah))
|((with_reducible apply aa.u0);(case hx=>first
|(exact aq z)
|exact ah))
|fail)
 all_goals(refine aZ (.inr rfl) rfl ?_;unfold nL;simp_all <;>omega)
def D8{S:List Int}(hl:S.length<=140737488351232):Cl ai 120 [.t (ax S)] [] (.t (.bool (ce S))) []:=by
 refine Cl.ao rfl Tryz.func120 rfl rfl rfl ?_;refine ar ?_;refine aC.ind (fun q:Nat=>[(3,.t (.int .i64 (q:Int)))]) (fun q=>q<=S.length/\ce S=ce (S.drop q)) (fun q=>S.length - q) 0 rfl ⟨by omega,rfl⟩ (fun q u=>?_);obtain⟨h1,h2⟩:=u;rcases Nat.lt_or_ge q S.length with h3|h3
 ·
  obtain⟨n,v⟩:=am h3;have hc:=aU v;have y:ce (S.drop q)=((decide (1<=n)&&decide (n<=6))&&ce (S.drop (q+1))):=iO _ v;rw[h2,y]
  repeat'(first
|(with_reducible first|apply ac.seq|apply ac.block)
|((with_reducible apply ac.text);(try case hm=>exact rfl))
|(with_reducible first|apply ac.skip|apply ac.ret|apply az|apply aV|apply bk|apply bq)
|((with_reducible apply ac.aA);(case hc=>exact rfl))
|((with_reducible apply ac.aH);(case hc=>exact rfl))
|((with_reducible apply aa.aE);(case hp=>exact aj))
|((with_reducible apply aa.bc)<;>intro u)
|((with_reducible apply aa.bg)<;>intro u)
|(with_reducible apply aa.ap)
|((with_reducible apply aa.gf);(case hW=>exact rfl))
|((with_reducible apply aa.aD);(case hW=>exact rfl);(case hx=>exact ah))
|((with_reducible apply aa.u0);(case hx=>exact ah))
|fail)
  all_goals first
   |exact aZ (.inr rfl) rfl (by rw[decide_eq_false (show¬1<=n by omega)];rfl)
   |exact aZ (.inr rfl) rfl (by rw[decide_eq_false (show¬n<=6 by omega)];simp)
   |exact⟨q+1,rfl,rfl,⟨by omega,by rw[decide_eq_true (show 1<=n by omega),decide_eq_true (show n<=6 by omega)];rfl⟩,by omega⟩
 ·
  have z:ce (S.drop q)=true:=gR _ h3;rw[h2,z];exact af
def vL(k:Int):Cl ai 123 [.t (.int .i64 k)] [] (.t (.bool (bp k))) []:=by
 refine Cl.ao rfl Tryz.func123 rfl rfl rfl ?_
 repeat'(first
|(with_reducible apply ac.seq)
|((with_reducible apply ac.text);(try case hm=>exact rfl))
|(with_reducible apply ac.ret)
|((with_reducible apply aa.bc)<;>intro u)
|((with_reducible apply aa.bg)<;>intro u)
|(with_reducible apply aa.ap)
|((with_reducible apply aa.gf);(case hW=>exact rfl))
|((with_reducible apply aa.aD);(case hW=>exact rfl);(case hx=>exact ah))
|((with_reducible apply aa.u0);(case hx=>exact ah))
|fail)
 all_goals(refine aZ (.inr rfl) rfl ?_;unfold bp;first|(simp_all;done)|(simp_all;omega))
def vM{S C:List Int}(Z:S.length<=140737488351232)(hC:C.length<=140737488351232):Cl ai 121 [.t (ax S),.t (ax C)] [] (.t (.int .i64 (bE S C))) []:=by
 refine Cl.ao rfl Tryz.func121 rfl rfl rfl ?_;have V:=D8 Z;have ab:=aQ S;by_cases h3:C.length<=3
 ·
  cases hs:ce S with
  |false=>
   rw[hs]at V;have z:bE S C=0:=by unfold bE;rw[if_neg (by simp[hs])]
   rw[z];exact af
  |true=>
   rw[hs]at V;have z:bE S C=if C.all (cg S)=true then cU S C else 0:=by unfold bE;simp[hs,h3]
   rw[z];refine ar ?_;refine aC.ind (fun q:Nat=>[(5,.t (.int .i64 (cU S (C.take q)))),(6,.t (.int .i64 (q:Int)))]) (fun q=>q<=C.length/\(C.take q).all (cg S)=true) (fun q=>C.length - q) 0 rfl ⟨by omega,by simp⟩ (fun q hq=>?_);obtain⟨h1,h2⟩:=hq;rcases Nat.lt_or_ge q C.length with h4|h4
   ·
    obtain⟨c,v⟩:=am h4;have hc:=aU v
    cases D:cg S c with
    |true=>
     have I:=lZ hs (sC h2 v D) (by simp;omega);have y:=uQ (S:=S) v;rw[y]at I;have u:=D;simp only[cg,Bool.and_eq_true,decide_eq_true_eq]at u;obtain⟨h0,U⟩:=u;obtain⟨s,G⟩:=am (xs:=S) (k:=c.toNat) (by omega);have hg:=aU G;rw[eR G]at I y;obtain⟨p,hp⟩:∃p,cU S (C.take q)=p:=⟨_,rfl⟩;rw[hp]at I y⊢;refine ar ?_;refine⟨q+1,?_,rfl,⟨by omega,sC h2 v D⟩,by omega⟩;rw[y];rfl
    |false=>
     have J:¬C.all (cg S)=true:=fun h=>by
      have:=List.all_eq_true.1 h c (List.mem_of_getElem? v);rw[D]at this;cases this
     rw[if_neg J]
     have u:c <0\/(S.length:Int)<=c:=by
      by_cases h:0<=c
      ·right
       simp only[cg,decide_eq_true h,Bool.true_and,decide_eq_false_iff_not]at D;omega
      ·exact .inl (by omega)
     rcases u with u|u
     ·
      exact af
     ·
      exact af
   ·
    have U:=vx h2 h4;rw[if_pos U,List.take_of_length_le h4];exact af
 ·
  have z:bE S C=0:=by unfold bE;rw[if_neg (by simp[h3])]
  rw[z];exact af
def Mw{S:List Int}{L:List Tb}(h:¬((S.length<=4/\ce S=true)/\L.length<=12)):bH S L=false:=by
 rw[<- Bool.not_eq_true];intro u;apply h;simp only[bH,Bool.and_eq_true,decide_eq_true_eq]at u;exact⟨⟨u.1.1,u.1.2.1⟩,u.1.2.2⟩
def j2(S:List Int)(L:List Tb)(q:Nat):Bool:=aY (gS S L) q (L.drop q)&&(decide (bn S true L<=128)&&decide (bn S false L<=64))
def Mx{S:List Int}{L:List Tb}(h:(S.length<=4/\ce S=true)/\L.length<=12):bH S L=j2 S L 0:=by
 unfold bH j2 allI;simp[h.1.1,h.1.2,h.2]
def D9{S:List Int}{L:List Tb}{q:Nat}{t:Tb}(h:L[q]?=some t):j2 S L q=(gS S L q t&&j2 S L (q+1)):=by
 unfold j2;rw[qp h,Bool.and_assoc]
def My{S:List Int}{L:List Tb}{q:Nat}{t:Tb}(h:L[q]?=some t)(hb:¬gS S L q t=true):j2 S L q=false:=by
 rw[D9 h,Bool.not_eq_true _ |>.mp hb];rfl
def Mz{S:List Int}{L:List Tb}{q:Nat}{t:Tb}(h:L[q]?=some t)(hb:gS S L q t=true):j2 S L q=j2 S L (q+1):=by
 rw[D9 h,hb];rfl
def D_{S:List Int}{L:List Tb}{q:Nat}{t:Tb}:gS S L q t=true↔((L.take q).any fun u=>decide (u.name=t.name))=false/\fR t.name=true/\(0<=t.kind/\t.kind<=5)/\bE S t.au≠0/\((t.lo<=t.hi/\ -9999<=t.lo/\t.hi<=9999)/\(¬(t.kind=0\/t.kind=2\/t.kind=3)\/(t.lo=0/\t.hi=1)))/\t.first=bn S (bp t.kind) (L.take q):=by
 unfold gS qq;simp only[Bool.and_eq_true,Bool.or_eq_true,Bool.not_eq_true',decide_eq_true_eq,decide_eq_false_iff_not,Bool.or_eq_false_iff,not_or,ne_eq]
def zq{S:List Int}{L:List Tb}(hS:S.length<=140737488351232)(hL:L.length<=140737488351232)(hC:∀t∈L,t.au.length<=140737488351232):Cl ai 85 [.t (ax S),.t (.arr (br L))] [] (.t (.bool (bH S L))) []:=by
 refine Cl.ao rfl Tryz.func85 rfl rfl rfl ?_;have kS:=D8 hS;have aI:=aQ S;have aE:=e9 L;by_cases h0:(S.length<=4/\ce S=true)/\L.length<=12
 ·
  rw[Mx h0];obtain⟨⟨h4,hs⟩,aw⟩:=h0;rw[hs]at kS;refine ar ?_;refine aC.ind (fun q:Nat=>[(5,.t (.int .i64 (bn S true (L.take q)))),(6,.t (.int .i64 (bn S false (L.take q)))),(7,.t (.int .i64 (q:Int)))]) (fun q=>q<=L.length/\j2 S L 0=j2 S L q) (fun q=>L.length - q) 0 rfl ⟨by omega,rfl⟩ (fun q I=>?_);obtain⟨h1,h2⟩:=I;rw[h2];rcases Nat.lt_or_ge q L.length with h3|h3
  ·
   obtain⟨t,V⟩:=am h3;have hc:=eK V;have kn:=D7 t.name;have kN:=vM (S:=S) (C:=t.au) hS (hC t (List.mem_of_getElem? V));have U:=vL t.kind;have v:=My (S:=S) V;have z:=Mz (S:=S) V;rw[D_]at v z;have G:=qu (S:=S) true V;have D:=qu (S:=S) false V;have ab:=jT (S:=S) true (L.take q);have Z:=jT (S:=S) false (L.take q);have ad:=l4 S t.au;have ag:(L.take q).length=q:=by simp;omega
   rw[ag]at ab Z;obtain⟨a,ha⟩:∃a,bn S true (L.take q)=a:=⟨_,rfl⟩;obtain⟨b,hb⟩:∃b,bn S false (L.take q)=b:=⟨_,rfl⟩;obtain⟨N,hN⟩:∃N,bE S t.au=N:=⟨_,rfl⟩;rw[ha]at G ab⊢;rw[hb]at D Z⊢;rw[hN]at G D ad kN v z;refine ar ?_;refine aC.ind (fun k:Nat=>[(9,.t (.int .i64 (k:Int)))]) (fun k=>k<=q/\((L.take q).any fun u=>decide (u.name=t.name))=(((L.take q).drop k).any fun u=>decide (u.name=t.name))) (fun k=>q - k) 0 rfl ⟨by omega,rfl⟩ (fun k hk=>?_);obtain⟨g1,g2⟩:=hk;rcases Nat.lt_or_ge k q with g3|g3
   ·
    obtain⟨u,hu⟩:=am (xs:=L) (k:=k) (by omega);have ay:=eK hu;have al:(L.take q)[k]?=some u:=by rw[List.getElem?_take,if_pos g3,hu]
    have hh:=sd (fun u:Tb=>decide (u.name=t.name)) al;by_cases he:u.name=t.name
    ·
     rw[decide_eq_true he,Bool.true_or]at hh;rw[v (fun h=>by rw[g2,hh]at h;cases h.1)];exact af
    ·
     rw[decide_eq_false he,Bool.false_or]at hh;refine ar ?_;exact⟨k+1,rfl,rfl,⟨by omega,by rw[g2,hh]⟩,by omega⟩
   ·
    have J:((L.take q).any fun u=>decide (u.name=t.name))=false:=by rw[g2];exact sf _ (by omega)
    obtain⟨nb,ak⟩:∃nb,fR t.name=nb:=⟨_,rfl⟩;rw[ak]at kn v z
    cases nb with
    |false=>
     rw[v (fun h=>by cases h.2.1)];exact af
    |true=>
     cases y:bp t.kind with
     |true=>
      rw[y,ha]at v z;rw[y]at U;rw[y,if_pos rfl]at G;rw[y,if_neg (by decide)]at D
      repeat'(first
|(with_reducible apply ac.seq)
|((with_reducible apply ac.text);(try case hm=>exact rfl))
|(with_reducible first|apply ac.skip|apply ac.exit|apply ac.ret|apply az|apply cR|apply aV|apply bq|apply cS)
|((with_reducible apply ac.aA);(case hc=>exact rfl))
|((with_reducible apply ac.aH);(case hc=>exact rfl))
|((with_reducible apply aa.bC);(case hp=>exact aj))
|((with_reducible apply aa.bc)<;>intro I)
|((with_reducible apply aa.fP)<;>intro I)
|((with_reducible apply aa.bg)<;>intro I)
|((with_reducible apply aa.fg)<;>intro I)
|(with_reducible first|apply aa.ap|apply aa.bj)
|((with_reducible apply aa.gf);(case hW=>exact rfl))
|((with_reducible apply aa.aD);(case hW=>exact rfl);(case hx=>exact ah))
|((with_reducible apply aa.u0);(case hx=>first
|(exact aq kN)
|(exact aq kn)
|(exact aq U)
|exact ah))
|fail)
      all_goals first
       |exact aZ (.inr rfl) rfl (Eq.symm (v (fun h=>by obtain⟨_,_,_,_,_,_⟩:=h;omega)))
       |(refine⟨q+1,?_,rfl,⟨by omega,z ⟨J,rfl,by omega,by omega,by omega,by omega⟩⟩,by omega⟩;rw[G,D];rfl)
     |false=>
      rw[y,hb]at v z;rw[y]at U;rw[y,if_neg (by decide)]at G;rw[y,if_pos rfl]at D
      repeat'(first
|(with_reducible apply ac.seq)
|((with_reducible apply ac.text);(try case hm=>exact rfl))
|(with_reducible first|apply ac.skip|apply ac.exit|apply ac.ret|apply az|apply cR|apply aV|apply bq|apply cS)
|((with_reducible apply ac.aA);(case hc=>exact rfl))
|((with_reducible apply ac.aH);(case hc=>exact rfl))
|((with_reducible apply aa.bC);(case hp=>exact aj))
|((with_reducible apply aa.bc)<;>intro I)
|((with_reducible apply aa.fP)<;>intro I)
|((with_reducible apply aa.bg)<;>intro I)
|((with_reducible apply aa.fg)<;>intro I)
|(with_reducible first|apply aa.ap|apply aa.bj)
|((with_reducible apply aa.gf);(case hW=>exact rfl))
|((with_reducible apply aa.aD);(case hW=>exact rfl);(case hx=>exact ah))
|((with_reducible apply aa.u0);(case hx=>first
|(exact aq kN)
|(exact aq kn)
|(exact aq U)
|exact ah))
|fail)
      all_goals first
       |exact aZ (.inr rfl) rfl (Eq.symm (v (fun h=>by obtain⟨_,_,_,_,_,_⟩:=h;omega)))
       |(refine⟨q+1,?_,rfl,⟨by omega,z ⟨J,rfl,by omega,by omega,by omega,by omega⟩⟩,by omega⟩;rw[G,D];rfl)
  ·
   have he:j2 S L q=(decide (bn S true L<=128)&&decide (bn S false L<=64)):=by
    unfold j2;rw[eT h3];rfl
   rw[he,List.take_of_length_le h3]
   repeat'(first
|(with_reducible apply ac.seq)
|((with_reducible apply ac.text);(try case hm=>exact rfl))
|(with_reducible first|apply ac.exit|apply ac.ret|apply az|apply cR|apply cS)
|((with_reducible apply ac.aH);(case hc=>exact rfl))
|((with_reducible apply aa.bC);(case hp=>exact aj))
|((with_reducible apply aa.bc)<;>intro I)
|((with_reducible apply aa.bg)<;>intro I)
|(with_reducible apply aa.ap)
|((with_reducible apply aa.gf);(case hW=>exact rfl))
|((with_reducible apply aa.aD);(case hW=>exact rfl);(case hx=>exact ah))
|((with_reducible apply aa.u0);(case hx=>exact ah))
|fail)
   all_goals(refine aZ (.inr rfl) rfl ?_;simp;omega)
 ·
  rw[Mw h0]
  cases hs:ce S with
  |true=>
   rw[hs]at kS;have an:¬(S.length<=4/\L.length<=12):=fun h=>h0 ⟨⟨h.1,hs⟩,h.2⟩
   repeat'(first
|(with_reducible apply ac.seq)
|((with_reducible apply ac.text);(try case hm=>exact rfl))
|(with_reducible first|apply ac.ret|apply aV)
|((with_reducible apply ac.aA);(case hc=>exact rfl))
|((with_reducible apply aa.bc)<;>intro I)
|((with_reducible apply aa.cd);(case hp=>exact aj))
|(with_reducible apply aa.ap)
|((with_reducible apply aa.gf);(case hW=>exact rfl))
|((with_reducible apply aa.aD);(case hW=>exact rfl);(case hx=>first
|(exact aq kS)
|exact ah))
|((with_reducible apply aa.u0);(case hx=>exact ah))
|fail)
   all_goals first
    |exact⟨.inr rfl,rfl⟩
    |(exfalso;omega)
  |false=>
   rw[hs]at kS;exact af
section
variable {g:Cfg} {d:Option (List Nat)} {env:Env} {fr:Fr} {i:Nat}
def ae.gX{t:TypeId}{x:Operand}{m:Int}(hx:rd env x=.t (.int .i64 m))(h : -9223372036854775808<=0 - m/\0 - m<=9223372036854775807):ae g d i env fr (.unOp .neg t x) (.t (.int .i64 (0 - m))) fr []:=.p rfl rfl (by
 unfold bG;simp only[hx,tA,IntWalk.i64_in _ h])
def ae.vN{xt yt:TypeId}{x y:Operand}{m n:Int}(hx:rd env x=.t (.int .i64 m))(hy:rd env y=.t (.int .i64 n)):ae g d i env fr (.binOp .sub xt x y yt) (.t (.int .i64 (IntKind.wrap .i64 (m - n)))) fr []:=
 .kP hx hy (by unfold gF;simp only[if_true,jH])
end
def vO:ai.P.eqGuardType ai.P.depth 90=false:=by kernel_rfl
def vP(a b u v:Int):ic ai.P 20 90 [.int .i64 a,.int .i64 b] [.int .i64 u,.int .i64 v]=some (decide (a=u)&&(decide (b=v)&&true)):=by kernel_rfl
def MB{A B:List Tm}(V:A.length<=140737488351232)(Z:B.length<=140737488351232):Cl ai 163 [.t (.arr (dM A)),.t (.arr (dM B))] [] (.t (.bool (decide (A=B)))) []:=by
 refine Cl.ao rfl Tryz.func163 rfl rfl rfl ?_;have G:=l8 A;have I:=l8 B;by_cases D:A.length=B.length
 ·
  have U:decide (A=B)=decide (A.drop 0=B.drop 0):=rfl;refine ar ?_;refine aC.ind (fun q:Nat=>[(5,.t (.int .i64 (q:Int)))]) (fun q=>q<=A.length/\decide (A=B)=decide (A.drop q=B.drop q)) (fun q=>A.length - q) 0 rfl ⟨by omega,rfl⟩ (fun q J=>?_);obtain⟨h1,h2⟩:=J;rw[h2];rcases Nat.lt_or_ge q A.length with h3|h3
  ·
   obtain⟨x,hx⟩:=am h3;obtain⟨y,hy⟩:=am (xs:=B) (k:=q) (by omega);have hc:=mZ hx;have hd:=mZ hy;by_cases z:x=y
   ·
    have u:decide (A.drop q=B.drop q)=decide (A.drop (q+1)=B.drop (q+1)):=by rw[bS hx,bS hy,z];simp
    have v:ic ai.P 20 90 [.int .i64 x.cell,.int .i64 x.bN] [.int .i64 y.cell,.int .i64 y.bN]=some true:=by rw[vP,z];simp
    repeat'(first
|(with_reducible first|apply ac.seq|apply ac.block)
|((with_reducible apply ac.text);(try case hm=>exact rfl))
|((with_reducible apply ac.drawn);(case hm=>exact rfl))
|(with_reducible first|apply ac.skip|apply az|apply bk)
|((with_reducible apply ac.aA);(case hc=>exact rfl))
|((with_reducible apply ac.aH);(case hc=>exact rfl))
|((with_reducible apply aa.aE);(case hp=>exact aj))
|(with_reducible apply aa.ap)
|((with_reducible apply aa.u0);(case hx=>first
|((with_reducible apply ae.uF);(case hx|hy=>exact rfl);(case hg=>exact vO);(case ht=>exact rfl);(case hr=>exact v))
|exact ah))
|fail)
    exact⟨q+1,rfl,rfl,⟨by omega,u⟩,by omega⟩
   ·
    have u:decide (A.drop q=B.drop q)=false:=by rw[bS hx,bS hy];simp[z]
    have v:ic ai.P 20 90 [.int .i64 x.cell,.int .i64 x.bN] [.int .i64 y.cell,.int .i64 y.bN]=some false:=by
     rw[vP];obtain⟨x1,x2⟩:=x;obtain⟨y1,y2⟩:=y;simp at z⊢;exact z
    rw[u]
    repeat'(first
|(with_reducible first|apply ac.seq|apply ac.block)
|((with_reducible apply ac.text);(try case hm=>exact rfl))
|((with_reducible apply ac.drawn);(case hm=>exact rfl))
|(with_reducible first|apply ac.skip|apply ac.ret|apply az|apply aV|apply bq)
|((with_reducible apply ac.aA);(case hc=>exact rfl))
|((with_reducible apply aa.aE);(case hp=>exact aj))
|(with_reducible apply aa.ap)
|((with_reducible apply aa.u0);(case hx=>first
|((with_reducible apply ae.uF);(case hx|hy=>exact rfl);(case hg=>exact vO);(case ht=>exact rfl);(case hr=>exact v))
|exact ah))
|fail)
    exact⟨.inr rfl,rfl⟩
  ·
   have u:decide (A.drop q=B.drop q)=true:=by rw[fE h3,fE (l:=B) (by omega)];rfl
   rw[u];exact af
 ·
  have u:decide (A=B)=false:=by simp;intro h;exact D (by rw[h])
  rw[u];exact af
def Ea{A B:Rw}(z:A.a_.length<=140737488351232)(D:B.a_.length<=140737488351232):Cl ai 126 [.t (.agg (e8 A)),.t (.agg (e8 B))] [] (.t (.bool (decide (A=B)))) []:=by
 obtain⟨T,n⟩:=A;obtain⟨U,m⟩:=B;have I:=MB (A:=T) (B:=U) z D;have v:e8 ⟨T,n⟩=[.arr (dM T),.int .i64 n]:=rfl;have y:e8 ⟨U,m⟩=[.arr (dM U),.int .i64 m]:=rfl;rw[v,y];refine Cl.ao rfl Tryz.func126 rfl rfl rfl ?_;by_cases h1:n=m
 ·
  have u:decide ((⟨T,n⟩:Rw)=⟨U,m⟩)=decide (T=U):=by simp[h1]
  rw[u];obtain⟨b,G⟩:∃b,decide (T=U)=b:=⟨_,rfl⟩;rw[G]at I⊢
  cases b with
  |true=>
   exact af
  |false=>
   exact af
 ·
  have u:decide ((⟨T,n⟩:Rw)=⟨U,m⟩)=false:=by simp[h1]
  rw[u];exact af
def Eb(L:List ByteArray):oh 1 (b5 L)=true:=by
 cases L <;>rfl
def Ec(L:List ByteArray)(k:Nat):(b5 L).take k=(L.take k).map fun s=>[.str s]:=by simp[b5,List.map_take]
def Ed{L:List ByteArray}{q:Nat}{s:ByteArray}(h:L[q]?=some s)(hb:¬(fR s=true/\((L.take q).any fun u=>decide (u=s))=false)):aY (jo L) q (L.drop q)=false:=by
 rw[qp h]
 have:jo L q s=false:=by
  rw[<- Bool.not_eq_true];intro v;simp only[jo,Bool.and_eq_true,Bool.not_eq_true']at v;exact hb v
 rw[this];rfl
def Ee{L:List ByteArray}{q:Nat}{s:ByteArray}(h:L[q]?=some s)(h1:fR s=true)(h2:((L.take q).any fun u=>decide (u=s))=false):aY (jo L) q (L.drop q)=aY (jo L) (q+1) (L.drop (q+1)):=by
 rw[qp h];unfold jo;rw[h1,h2];rfl
def Ef{L:List ByteArray}(hl:L.length<=140737488351232):Cl ai 86 [.t (.arr (b5 L))] [] (.t (.bool (gu L))) []:=by
 have I:=mY L;have J:gu L=aY (jo L) 0 (L.drop 0):=rfl;rw[J];refine Cl.ao rfl Tryz.func86 rfl rfl rfl ?_;refine ar ?_;refine aC.ind (fun q:Nat=>[(3,.t (.int .i64 (q:Int)))]) (fun q=>q<=L.length/\aY (jo L) 0 (L.drop 0)=aY (jo L) q (L.drop q)) (fun q=>L.length - q) 0 rfl ⟨by omega,rfl⟩ (fun q U=>?_);obtain⟨h1,h2⟩:=U;rw[h2];rcases Nat.lt_or_ge q L.length with h3|h3
 ·
  obtain⟨s,hs⟩:=am h3;have hc:=DT hs;have D:=D7 s;have z:=DN (L:=L.take q) (s:=s) (by simp;omega);have v:=Ed hs;have G:=Ee hs
  cases hn:fR s with
  |false=>
   rw[hn]at D;rw[v (fun h=>by rw[hn]at h;cases h.1)];exact af
  |true=>
   rw[hn]at D
   cases y:(L.take q).any fun u=>decide (u=s)with
   |true=>
    rw[y]at z;rw[v (fun h=>by rw[y]at h;cases h.2)]
    repeat'(first
|(with_reducible first|apply ac.seq|apply ac.block)
|((with_reducible apply ac.text);(try case hm=>exact rfl))
|((with_reducible apply ac.drawn);(case hm=>exact rfl))
|(with_reducible first|apply ac.skip|apply ac.ret|apply az|apply aV|apply bq)
|((with_reducible apply ac.aA);(case hc=>exact rfl))
|((with_reducible apply aa.aE);(case hp=>exact aj))
|(with_reducible apply aa.ap)
|((with_reducible apply aa.aD);(case hW=>exact rfl);(case hx=>first
|((with_reducible apply ae.B3);(case he|hx|hi=>exact rfl);(case hn=>(rw[I];omega));(case hz=>exact Eb _);(case hv=>exact Ec _ _))
|(exact aq z)
|exact ah))
|((with_reducible apply aa.u0);(case hx=>first
|(exact aq D)
|exact ah))
|fail)
    exact⟨.inr rfl,rfl⟩
   |false=>
    rw[y]at z
    repeat'(first
|(with_reducible first|apply ac.seq|apply ac.block)
|((with_reducible apply ac.text);(try case hm=>exact rfl))
|((with_reducible apply ac.drawn);(case hm=>exact rfl))
|(with_reducible first|apply ac.skip|apply az|apply bk)
|((with_reducible apply ac.aA);(case hc=>exact rfl))
|((with_reducible apply ac.aH);(case hc=>exact rfl))
|((with_reducible apply aa.aE);(case hp=>exact aj))
|(with_reducible apply aa.ap)
|((with_reducible apply aa.aD);(case hW=>exact rfl);(case hx=>first
|((with_reducible apply ae.B3);(case he|hx|hi=>exact rfl);(case hn=>(rw[I];omega));(case hz=>exact Eb _);(case hv=>exact Ec _ _))
|(exact aq z)
|exact ah))
|((with_reducible apply aa.u0);(case hx=>first
|(exact aq D)
|exact ah))
|fail)
    exact⟨q+1,rfl,rfl,⟨by omega,G hn y⟩,by omega⟩
 ·
  rw[eT h3];exact af
def MC(n:Int):Cl ai 129 [.t (.int .i64 n),.t (.int .i64 1000)] [] (.t (.bool (cE n 1000))) []:=by
 refine Cl.ao rfl Tryz.func129 rfl rfl rfl ?_
 repeat'(first
|(with_reducible apply ac.seq)
|((with_reducible apply ac.text);(try case hm=>exact rfl))
|(with_reducible apply ac.ret)
|((with_reducible apply aa.bc)<;>intro u)
|((with_reducible apply aa.bg)<;>intro u)
|(with_reducible apply aa.ap)
|((with_reducible apply aa.gf);(case hW=>exact rfl))
|((with_reducible apply aa.aD);(case hW=>exact rfl);(case hx=>exact ah))
|((with_reducible apply aa.u0);(case hx=>first
|((with_reducible apply ae.gX);(case hx=>exact rfl);(case h=>omega))
|exact ah))
|fail)
 all_goals(refine aZ (.inr rfl) rfl ?_;unfold cE;first|(simp_all;done)|(simp_all;omega))
def MD(n:Int):Cl ai 129 [.t (.int .i64 n),.t (.int .i64 9999)] [] (.t (.bool (cE n 9999))) []:=by
 refine Cl.ao rfl Tryz.func129 rfl rfl rfl ?_
 repeat'(first
|(with_reducible apply ac.seq)
|((with_reducible apply ac.text);(try case hm=>exact rfl))
|(with_reducible apply ac.ret)
|((with_reducible apply aa.bc)<;>intro u)
|((with_reducible apply aa.bg)<;>intro u)
|(with_reducible apply aa.ap)
|((with_reducible apply aa.gf);(case hW=>exact rfl))
|((with_reducible apply aa.aD);(case hW=>exact rfl);(case hx=>exact ah))
|((with_reducible apply aa.u0);(case hx=>first
|((with_reducible apply ae.gX);(case hx=>exact rfl);(case h=>omega))
|exact ah))
|fail)
 all_goals(refine aZ (.inr rfl) rfl ?_;unfold cE;first|(simp_all;done)|(simp_all;omega))
def Eg(n:Int):Cl ai 129 [.t (.int .i64 n),.t (.int .i64 1000000000)] [] (.t (.bool (cE n 1000000000))) []:=by
 refine Cl.ao rfl Tryz.func129 rfl rfl rfl ?_
 repeat'(first
|(with_reducible apply ac.seq)
|((with_reducible apply ac.text);(try case hm=>exact rfl))
|(with_reducible apply ac.ret)
|((with_reducible apply aa.bc)<;>intro u)
|((with_reducible apply aa.bg)<;>intro u)
|(with_reducible apply aa.ap)
|((with_reducible apply aa.gf);(case hW=>exact rfl))
|((with_reducible apply aa.aD);(case hW=>exact rfl);(case hx=>exact ah))
|((with_reducible apply aa.u0);(case hx=>first
|((with_reducible apply ae.gX);(case hx=>exact rfl);(case h=>omega))
|exact ah))
|fail)
 all_goals(refine aZ (.inr rfl) rfl ?_;unfold cE;first|(simp_all;done)|(simp_all;omega))
def ME{n:Int}{l:List Tm}{i:Nat}{t:Tm}:fj n l i t=true↔(0<=t.cell/\t.cell <n)/\(i=0\/(l.getD (i - 1) ⟨0,0⟩).cell <t.cell)/\t.bN≠0/\cE t.bN 1000=true:=by
 unfold fj;simp only[Bool.and_eq_true,Bool.or_eq_true,Bool.not_eq_true',decide_eq_true_eq,decide_eq_false_iff_not,ne_eq]
section
variable {α:Type} {p:Nat->α->Bool} {l:List α} {q:Nat} {x:α}
def gz(h:l[q]?=some x)(hb:¬p q x=true):aY p q (l.drop q)=false:=by
 rw[qp h,Bool.not_eq_true _ |>.mp hb];rfl
def gA(h:l[q]?=some x)(hb:p q x=true):aY p q (l.drop q)=aY p (q+1) (l.drop (q+1)):=by
 rw[qp h,hb];rfl
end
def Eh{n:Int}{r:Rw}(hl:r.a_.length<=140737488351232):Cl ai 127 [.t (.agg (e8 r)),.t (.int .i64 n)] [] (.t (.bool (cy n r))) []:=by
 obtain⟨T,B⟩:=r;have e1:e8 ⟨T,B⟩=[.arr (dM T),.int .i64 B]:=rfl;have e2:cy n ⟨T,B⟩=(aY (fj n T) 0 (T.drop 0)&&cE B 1000000000):=rfl;rw[e1,e2];have hl:T.length<=140737488351232:=hl;have hT:=l8 T;have kB:=Eg B;refine Cl.ao rfl Tryz.func127 rfl rfl rfl ?_;refine ar ?_;refine aC.ind (fun q:Nat=>[(5,.t (.int .i64 (q:Int)))]) (fun q=>q<=T.length/\aY (fj n T) 0 (T.drop 0)=aY (fj n T) q (T.drop q)) (fun q=>T.length - q) 0 rfl ⟨by omega,rfl⟩ (fun q z=>?_);obtain⟨h1,h2⟩:=z;rw[h2];rcases Nat.lt_or_ge q T.length with h3|h3
 ·
  obtain⟨t,J⟩:=am h3;have hc:=mZ J;have U:=MC t.bN;have v:=gz (p:=fj n T) J;have y:=gA (p:=fj n T) J;rw[ME]at v y;obtain⟨V,D⟩:∃b,cE t.bN 1000=b:=⟨_,rfl⟩;rw[D]at U v y
  cases q with
  |zero=>
   cases V with
   |false=>
    rw[v (fun h=>by cases h.2.2.2)];exact af
   |true=>
    repeat'(first
|(with_reducible first|apply ac.seq|apply ac.block)
|((with_reducible apply ac.text);(try case hm=>exact rfl))
|((with_reducible apply ac.drawn);(case hm=>exact rfl))
|(with_reducible first|apply ac.skip|apply ac.ret|apply az|apply aV|apply bk|apply bq)
|((with_reducible apply ac.aA);(case hc=>exact rfl))
|((with_reducible apply ac.aH);(case hc=>exact rfl))
|((with_reducible apply aa.aE);(case hp=>exact aj))
|((with_reducible apply aa.bc)<;>intro z)
|((with_reducible apply aa.cA);(case hp=>exact aj))
|((with_reducible apply aa.bg)<;>intro z)
|(with_reducible apply aa.ap)
|((with_reducible apply aa.gf);(case hW=>exact rfl))
|((with_reducible apply aa.aD);(case hW=>exact rfl);(case hx=>first
|(exact aq U)
|exact ah))
|((with_reducible apply aa.u0);(case hx=>exact ah))
|fail)
    all_goals first
     |exact aZ (.inr rfl) rfl (by rw[v (fun h=>by obtain⟨_,_,_,_⟩:=h;omega)];rfl)
     |exact⟨0+1,rfl,rfl,⟨by omega,y ⟨by omega,.inl rfl,by omega,rfl⟩⟩,by omega⟩
  |succ k=>
   obtain⟨u,hu⟩:=am (xs:=T) (k:=k) (by omega);have G:=mZ hu;have Z:(dM T)[((k+1:Nat) - 1:Int).toNat]?=some [.int .i64 u.cell,.int .i64 u.bN]:=by rw[show((k+1:Nat) - 1:Int).toNat=k by omega];exact G
   have I:T.getD (k+1 - 1) ⟨0,0⟩=u:=by rw[Nat.add_sub_cancel,List.getD_eq_getElem?_getD,hu];rfl
   rw[I]at v y
   cases V with
   |false=>
    rw[v (fun h=>by cases h.2.2.2)];exact af
   |true=>
    repeat'(first
|(with_reducible first|apply ac.seq|apply ac.block)
|((with_reducible apply ac.text);(try case hm=>exact rfl))
|((with_reducible apply ac.drawn);(case hm=>exact rfl))
|(with_reducible first|apply ac.skip|apply ac.ret|apply az|apply aV|apply bk|apply bq)
|((with_reducible apply ac.aA);(case hc=>exact rfl))
|((with_reducible apply ac.aH);(case hc=>exact rfl))
|((with_reducible apply aa.aE);(case hp=>exact aj))
|((with_reducible apply aa.bc)<;>intro z)
|((with_reducible apply aa.cd);(case hp=>exact aj))
|((with_reducible apply aa.bg)<;>intro z)
|(with_reducible apply aa.ap)
|((with_reducible apply aa.gf);(case hW=>exact rfl))
|((with_reducible apply aa.aD);(case hW=>exact rfl);(case hx=>first
|(exact aq U)
|exact ah))
|((with_reducible apply aa.u0);(case hx=>exact ah))
|fail)
    all_goals first
     |exact aZ (.inr rfl) rfl (by rw[v (fun h=>by obtain⟨_,_,_,_⟩:=h;omega)];rfl)
     |exact⟨k+1+1,rfl,rfl,⟨by omega,y ⟨by omega,.inr (by omega),by omega,rfl⟩⟩,by omega⟩
 ·
  rw[eT h3];exact af
set_option maxRecDepth 100000
set_option maxHeartbeats 16000000
def Ei(l m:List (Int×Int)):bJ l++bJ m=bJ (l++m):=by unfold bJ;rw[List.map_append]
def MF{n:Nat}(h:n<=4000):ca n 16=true:=by simp[ca];omega
def jA(S:List Int)(L:List Tb)(s:Bool)(q k:Nat)(t:Tb):List (Int×Int):=(L.take q).flatMap (ee S s)++List.replicate k (t.lo,t.hi)
def MG{S:List Int}{L:List Tb}{s:Bool}{q k:Nat}{t:Tb}:jA S L s q k t++[(t.lo,t.hi)]=jA S L s q (k+1) t:=by
 unfold jA;rw[CP,List.append_assoc]
def MH{S:List Int}{L:List Tb}{s:Bool}{q k:Nat}{t:Tb}(ht:L[q]?=some t)(hs:bp t.kind=s)(hk:(bE S t.au).toNat=k):jA S L s q k t=(L.take (q+1)).flatMap (ee S s):=by
 unfold jA;rw[sj ht];unfold ee;rw[if_pos hs,hk]
def Ej{S:List Int}{L:List Tb}{s:Bool}{q:Nat}{t:Tb}(ht:L[q]?=some t)(hs:bp t.kind≠s):(L.take q).flatMap (ee S s)=(L.take (q+1)).flatMap (ee S s):=by
 rw[sj ht];unfold ee;rw[if_neg hs,List.append_nil]
def MI{S:List Int}{L:List Tb}(s:Bool)(hS:S.length<=140737488351232)(hL:L.length<=140737488351232)(hC:∀t∈L,t.au.length<=140737488351232):Cl ai 162 [.t (ax S),.t (.arr (br L)),.t (.bool s)] [] (.ls 0) [.row false false 2 (bJ (bx S L s))]:=by
 have kv:=zq hS hL hC;have ag:=aQ S;have ad:=e9 L
 cases hv:bH S L with
 |false=>
  have hr:bx S L s=[]:=by unfold bx;rw[hv];rfl
  rw[hv]at kv;rw[hr];refine Cl.ao rfl Tryz.func162 rfl rfl rfl ?_;exact af
 |true=>
  have hr:bx S L s=L.flatMap (ee S s):=by unfold bx;rw[hv];rfl
  have ab:=iQ hv;rw[hv]at kv;rw[hr];refine Cl.ao rfl Tryz.func162 rfl rfl rfl ?_;refine ar ?_;refine aC.cB (fun x:Nat×Bool=>[(7,.ls 0),(8,.t (.int .i64 (x.1:Int)))]) (fun x=>[.row false x.2 2 (bJ ((L.take x.1).flatMap (ee S s)))]) (fun x=>x.1<=L.length) (fun x=>L.length - x.1) (0,false) rfl rfl (by simp) (fun x hq=>?_);obtain⟨q,z⟩:=x;dsimp only at hq⊢;rcases Nat.lt_or_ge q L.length with h3|h3
  ·
   obtain⟨t,ht⟩:=am h3;have hc:=eK ht;have kN:=vM (S:=S) (C:=t.au) hS (hC t (List.mem_of_getElem? ht));have v:=vL t.kind;have I:=l4 S t.au;have ak:=CR S s (L.take q);have al:(L.take q).length<=12:=by simp;omega
   by_cases hs:bp t.kind=s
   ·
    rw[hs]at v;obtain⟨N,hN⟩:∃N,(bE S t.au).toNat=N:=⟨_,rfl⟩;have G:bE S t.au=(N:Int):=by omega
    have y:=MH ht hs hN;rw[G]at kN I;have h0:(L.take q).flatMap (ee S s)=jA S L s q 0 t:=by unfold jA;simp
    rw[h0];have J:∀k,(jA S L s q k t).length<=2592+k:=fun k=>by unfold jA;rw[List.length_append,List.length_replicate];omega
    refine ar ?_;refine aC.cB (fun x:Nat×Bool=>[(7,.ls 0),(9,.t (.int .i64 (x.1:Int)))]) (fun x=>[.row false x.2 2 (bJ (jA S L s q x.1 t))]) (fun x=>x.1<=N) (fun x=>N - x.1) (0,z) rfl rfl (by simp) (fun x hk=>?_);obtain⟨k,D⟩:=x;dsimp only at hk⊢;rcases Nat.lt_or_ge k N with h4|h4
    ·
     have V:bJ (jA S L s q k t)++[[.int .i64 t.lo,.int .i64 t.hi]]=bJ (jA S L s q (k+1) t):=by rw[<- MG];exact Ei _ [(t.lo,t.hi)]
     have U:ca ((bJ (jA S L s q k t)).length+1) 16=true:=by
      have:=J k;rw[jy];exact MF (by omega)
     cases s <;>
     repeat'(first
|(with_reducible first|apply ac.seq|apply ac.block)
|((with_reducible apply ac.text);(try case hm=>exact rfl))
|(with_reducible first|apply ac.skip|apply az)
|((with_reducible apply ac.aA);(case hc=>exact rfl))
|((with_reducible apply aa.cd);(case hp=>exact aj))
|(with_reducible first|apply aa.ap|apply aa.bj)
|((with_reducible apply aa.u);(case hx=>((with_reducible apply ae.eP);(case hs=>exact fun _=>rfl);(case ha|ht=>exact rfl);(case hr=>first|(with_reducible exact eH)|(with_reducible exact rw1)|(with_reducible exact eI)|(with_reducible exact rw3)|(with_reducible exact rw4)|exact rfl);(case hx|hy|hn|hb|hok=>exact rfl);(case hlen=>exact U);(case hv=>exact V);(case hk=>exact eQ);(case hf=>exact leq))))
|((with_reducible apply aa.aD);(case hW=>exact rfl);(case hx=>first
|(exact aq kN)
|exact ah))
|((with_reducible apply aa.u0);(case hx=>first
|(exact aq v)
|exact ah))
|fail)
     all_goals exact⟨(k+1,true),rfl,rfl,by dsimp only;omega,by dsimp only;omega⟩
    ·
     obtain rfl:k=N:=by omega
     rw[y];cases s <;>
     refine ar ?_
     all_goals exact⟨(q+1,D),rfl,rfl,by dsimp only;omega,by dsimp only;omega⟩
   ·
    have Z:bp t.kind=!s:=by cases s <;>simp_all
    rw[Z]at v;rw[Ej ht hs];refine ar ?_;refine aC.step ?_;cases s <;>
    refine ar ?_
    all_goals exact⟨(q+1,z),rfl,rfl,by dsimp only;omega,by dsimp only;omega⟩
  ·
   rw[List.take_of_length_le h3];exact af
def MJ(fr:Fr)(m n:Int):ik ai.P fr 22 (.t (.int .i64 m)) (.t (.int .i64 n))=match decide (0<=m)&&decide (m<=n)&&Nat.ble (n.toNat*8) 281474976710656&&Nat.ble n.toNat 140737488351232 with
  |true=>some (.ls fr.length,fr++[.row false false 1 (List.replicate m.toNat [.int .i64 0])],[])
  |false=>none:=by kernel_rfl
def Ek{fr:Fr}{n:Nat}(h:n<=1000):ik ai.P fr 22 (.t (.int .i64 (n:Int))) (.t (.int .i64 (n:Int)))=some (.ls fr.length,fr++[.row false false 1 (aG (List.replicate n 0))],[]):=by
 have e:(decide (0<=(n:Int))&&decide ((n:Int)<=n)&&Nat.ble ((n:Int).toNat*8) 281474976710656&&Nat.ble (n:Int).toNat 140737488351232)=true:=by
  rw[Int.toNat_natCast];have h1:Nat.ble (n*8) 281474976710656=true:=by rw[Nat.ble_eq];omega
  have h2:Nat.ble n 140737488351232=true:=by rw[Nat.ble_eq];omega
  rw[h1,h2];simp
 rw[MJ,e];simp[aG]
def MK{S C:List Int}{K:Int}(hs:ce S=true)(hc:C.all (cg S)=true)(hS:S.length<=140737488351232)(hC:C.length<=3)(h0:0<=K)(hK:K<=1000):Cl ai 185 [.t (ax S),.t (ax C),.t (.int .i64 K)] [] (.ls 0) [.row false false 1 (aG (pe S C K))]:=by
 have ag:=aQ S;have ad:=aQ C;have hm:=Ek (fr:=[]) (n:=C.length) (by omega);have I:=aQ (List.replicate C.length 0);rw[List.length_replicate]at I;refine Cl.ao rfl Tryz.func185 rfl rfl rfl ?_
 repeat'(first
|(with_reducible first|apply ac.seq|apply ac.block)
|((with_reducible apply ac.text);(try case hm=>exact rfl))
|(with_reducible apply aa.ap)
|((with_reducible apply aa.u0);(case hx=>first
|((with_reducible apply ae.d_);(case hs=>exact fun _=>rfl);(case hl|hc|hd=>exact rfl);(case hm=>exact hm);(case hf=>exact leq))
|exact ah))
|fail)
 apply ac.kQ
 case ho=>exact rfl
 case hp=>exact rfl
 case hl=>exact rfl
 case hs=>exact slt
 refine aC.cB (fun x:Nat×Int×List Int=>[(2,.t (.int .i64 x.2.1)),(8,.t (.int .i64 ((x.1:Int) - 1)))]) (fun x=>[.row false false 1 (aG x.2.2)]) (fun x=>x.1<=C.length/\0<=x.2.1/\x.2.1<=1000/\x.2.2.length=C.length/\iP S C x.1 x.2.1 x.2.2=pe S C K) (fun x=>x.1) (C.length,K,List.replicate C.length 0) rfl rfl ⟨by dsimp only;omega,h0,hK,by simp,rfl⟩ (fun x hx=>?_);obtain⟨j,k,r⟩:=x;dsimp only at hx⊢;obtain⟨h1,h2,h3,h4,h5⟩:=hx
 cases j with
 |zero=>
  rw[<- h5];exact af
 |succ j=>
  obtain⟨c,u⟩:=am (xs:=C) (k:=j) (by omega);have ab:=aU u;have y:=List.all_eq_true.1 hc c (List.mem_of_getElem? u);obtain⟨g1,g2⟩:=uR hs y;simp only[cg,Bool.and_eq_true,decide_eq_true_eq]at y;obtain⟨g3,g4⟩:=y;obtain⟨s,z⟩:=am (xs:=S) (k:=c.toNat) (by omega);have al:=aU z;rw[eR z]at g1 g2;obtain⟨v,hv⟩:=am (xs:=r) (k:=j) (by omega);have V:=aU hv;have ak:=aQ r;have ej:(((j+1:Nat):Int) - 1)=(j:Int):=by omega
  rw[ej];have J:(aG r)[((j:Nat):Int).toNat]?=some [.int .i64 v]:=by rw[Int.toNat_natCast];exact V
  have U:(aG r).set ((j:Nat):Int).toNat [.int .i64 (k.tmod s)]=aG (r.set j (k.tmod s)):=by rw[Int.toNat_natCast];simp[aG,List.map_set]
  have hd:0<=k.tdiv s/\k.tdiv s<=k:=by
   rw[Int.tdiv_eq_ediv_of_nonneg h2];exact⟨Int.ediv_nonneg h2 (by omega),Int.ediv_le_self _ h2⟩
  have G:iP S C (j+1) k r=iP S C j (k.tdiv s) (r.set j (k.tmod s)):=by
   have e1:C.getD j 0=c:=eR u;have e2:S.getD c.toNat 0=s:=eR z;rw[iP,e1,e2]
  obtain⟨Z,D⟩:∃Z,k.tdiv s=Z:=⟨_,rfl⟩;rw[D]at hd G
  repeat'(first
|(with_reducible first|apply ac.seq|apply ac.block)
|((with_reducible apply ac.text);(try case hm=>exact rfl))
|(with_reducible first|apply ac.skip|apply az)
|((with_reducible apply ac.aA);(case hc=>exact rfl))
|((with_reducible apply aa.aE);(case hp=>exact aj))
|(with_reducible first|apply aa.ap|apply aa.bj)
|((with_reducible apply aa.u0);(case hx=>first
|((with_reducible apply ae.kR);(case hx|hy=>exact rfl);(case hn=>omega);(case h=>exact rfl))
|((with_reducible apply ae.gl);(case hx|hy=>exact rfl);(case hn=>omega);(case h=>exact D);(case hb=>omega))
|((with_reducible apply ae.o7);(case hs=>exact fun _=>rfl);(case ha|hy|ht|hone=>exact rfl);(case hn=>kernel_rfl);(case hb=>exact rfl);(case hk=>exact J);(case hj=>exact rfl);(case hv=>exact U);(case hf=>exact leq))
|exact ah))
|fail)
  exact⟨(j,Z,r.set j (k.tmod s)),rfl,rfl,⟨by dsimp only;omega,by dsimp only;omega,by dsimp only;omega,by simp[h4],by dsimp only;rw[<- G];exact h5⟩,by dsimp only;omega⟩
def sR{S:List Int}{s:Bool}{c:Int}{t:Tb}:eF S s c t=true↔bp t.kind=s/\0<=c/\0<=c - t.first/\c - t.first <bE S t.au:=by
 unfold eF;simp only[Bool.and_eq_true,decide_eq_true_eq]
def vQ{S:List Int}{L:List Tb}(h:bH S L=true){k:Nat}{t:Tb}(ht:L[k]?=some t):0<=t.first/\t.first<=5000:=by
 have h1:=qv h ht;simp only[gS,Bool.and_eq_true,decide_eq_true_eq]at h1;have h2:=jT (S:=S) (bp t.kind) (L.take k);have h3:=iQ h;have h4:(L.take k).length<=L.length:=by simp;omega
 omega
def ML{S:List Int}{L:List Tb}{s:Bool}{c:Int}(hS:S.length<=140737488351232)(hL:L.length<=140737488351232)(hC:∀t∈L,t.au.length<=140737488351232)(hc:c<=9223372036854775807):match eU S L s c with
  |some (i,t)=>Cl ai 164 [.t (ax S),.t (.arr (br L)),.t (.bool s),.t (.int .i64 c)] [] (.aL [.t (.int .i64 (i:Int)),.ls 0,.t (.bool true)]) [.row false false 1 (aG (pe S t.au (c - t.first)))]
  |none=>Cl ai 164 [.t (ax S),.t (.arr (br L)),.t (.bool s),.t (.int .i64 c)] [] (.aL [.t (.int .i64 0),.nil,.t (.bool false)]) []:=by
 have kv:=zq hS hL hC;have al:=aQ S;have ak:=e9 L
 cases J:bH S L with
 |false=>
  have hr:eU S L s c=none:=by unfold eU;rw[J];rfl
  rw[J]at kv;rw[hr];refine Cl.ao rfl Tryz.func164 rfl rfl rfl ?_;exact af
 |true=>
  have hr:eU S L s c=fF (eF S s c) 0 L:=by unfold eU;rw[J];rfl
  rw[J]at kv;rw[hr]
  cases hf:fF (eF S s c) 0 L with
  |none=>
   show Cl ai 164 _ [] _ []
   refine Cl.ao rfl Tryz.func164 rfl rfl rfl ?_;refine ar ?_;refine aC.ind (fun q:Nat=>[(11,.t (.int .i64 (q:Int)))]) (fun q=>q<=L.length/\fF (eF S s c) q (L.drop q)=none) (fun q=>L.length - q) 0 rfl ⟨by omega,hf⟩ (fun q V=>?_);obtain⟨h1,h2⟩:=V;rcases Nat.lt_or_ge q L.length with h3|h3
   ·
    obtain⟨t,D⟩:=am h3;have ad:=eK D;have U:=vM (S:=S) (C:=t.au) hS (hC t (List.mem_of_getElem? D));have v:=vL t.kind;obtain⟨f0,f1⟩:=vQ J D;rw[uP D]at h2;obtain⟨N,Z⟩:∃N,bE S t.au=N:=⟨_,rfl⟩
    cases z:eF S s c t with
    |true=>rw[z]at h2;cases h2
    |false=>
     rw[z]at h2;have y:¬(bp t.kind=s/\0<=c/\0<=c - t.first/\c - t.first <bE S t.au):=fun h=>by rw[sR.2 h]at z;cases z
     rw[Z]at U y;by_cases hs:bp t.kind=s
     ·
      rw[hs]at v;by_cases h0:0<=c
      ·
       cases s <;>
       repeat'(first
|(with_reducible first|apply ac.seq|apply ac.block)
|((with_reducible apply ac.text);(try case hm=>exact rfl))
|(with_reducible first|apply ac.skip|apply az|apply bk)
|((with_reducible apply ac.aA);(case hc=>exact rfl))
|((with_reducible apply ac.aH);(case hc=>exact rfl))
|((with_reducible apply aa.aE);(case hp=>exact aj))
|((with_reducible apply aa.cd);(case hp=>exact aj))
|((with_reducible apply aa.bg)<;>intro V)
|(with_reducible apply aa.ap)
|((with_reducible apply aa.gf);(case hW=>exact rfl))
|((with_reducible apply aa.aD);(case hW=>exact rfl);(case hx=>first
|(exact aq U)
|exact ah))
|((with_reducible apply aa.u0);(case hx=>first
|(exact aq v)
|exact ah))
|fail)
       all_goals first
        |exact⟨q+1,rfl,rfl,⟨by omega,h2⟩,by omega⟩
        |(exfalso;apply y;exact⟨hs,by omega,by omega,by omega⟩)
      ·
       cases s <;>
       repeat'(first
|(with_reducible first|apply ac.seq|apply ac.block)
|((with_reducible apply ac.text);(try case hm=>exact rfl))
|(with_reducible first|apply ac.skip|apply az|apply bk)
|((with_reducible apply ac.aA);(case hc=>exact rfl))
|((with_reducible apply ac.aH);(case hc=>exact rfl))
|((with_reducible apply aa.aE);(case hp=>exact aj))
|((with_reducible apply aa.cA);(case hp=>exact aj))
|(with_reducible apply aa.ap)
|((with_reducible apply aa.gf);(case hW=>exact rfl))
|((with_reducible apply aa.aD);(case hW=>exact rfl);(case hx=>exact ah))
|((with_reducible apply aa.u0);(case hx=>first
|((with_reducible apply ae.vN);(case hx|hy=>exact rfl))
|(exact aq v)
|exact ah))
|fail)
       all_goals exact⟨q+1,rfl,rfl,⟨by omega,h2⟩,by omega⟩
     ·
      have I:bp t.kind=!s:=by cases s <;>simp_all
      rw[I]at v;cases s <;>
      repeat'(first
|(with_reducible first|apply ac.seq|apply ac.block)
|((with_reducible apply ac.text);(try case hm=>exact rfl))
|(with_reducible first|apply ac.skip|apply az|apply bk)
|((with_reducible apply ac.aA);(case hc=>exact rfl))
|((with_reducible apply ac.aH);(case hc=>exact rfl))
|((with_reducible apply aa.aE);(case hp=>exact aj))
|(with_reducible apply aa.ap)
|((with_reducible apply aa.gf);(case hW=>exact rfl))
|((with_reducible apply aa.u0);(case hx=>first
|((with_reducible apply ae.vN);(case hx|hy=>exact rfl))
|(exact aq v)
|exact ah))
|fail)
      all_goals exact⟨q+1,rfl,rfl,⟨by omega,h2⟩,by omega⟩
   ·
    exact af
  |some it=>
   obtain⟨i,u⟩:=it;have ag:=uS hf;show Cl ai 164 _ [] _ _
   refine Cl.ao rfl Tryz.func164 rfl rfl rfl ?_;refine ar ?_;refine aC.ind (fun q:Nat=>[(11,.t (.int .i64 (q:Int)))]) (fun q=>q<=L.length/\fF (eF S s c) q (L.drop q)=some (i,u)) (fun q=>L.length - q) 0 rfl ⟨by omega,hf⟩ (fun q V=>?_);obtain⟨h1,h2⟩:=V;rcases Nat.lt_or_ge q L.length with h3|h3
   ·
    obtain⟨t,D⟩:=am h3;have ad:=eK D;have U:=vM (S:=S) (C:=t.au) hS (hC t (List.mem_of_getElem? D));have v:=vL t.kind;obtain⟨f0,f1⟩:=vQ J D;obtain⟨c1,c2,c3⟩:=jp J D;have ab:=l4 S t.au;rw[uP D]at h2;obtain⟨N,Z⟩:∃N,bE S t.au=N:=⟨_,rfl⟩
    cases z:eF S s c t with
    |true=>
     rw[z,if_pos rfl]at h2;obtain⟨rfl,rfl⟩:q=i/\t=u:=by cases h2;exact⟨rfl,rfl⟩
     have G:=sR.1 z;rw[Z]at U G ab;obtain⟨y1,y2,y3,y4⟩:=G;rw[y1]at v;have kt:=MK (S:=S) (C:=t.au) (K:=c - t.first) c2 c3 hS c1 y3 (by omega);cases s <;>
     exact af
    |false=>
     rw[z]at h2;have y:¬(bp t.kind=s/\0<=c/\0<=c - t.first/\c - t.first <bE S t.au):=fun h=>by rw[sR.2 h]at z;cases z
     rw[Z]at U y;by_cases hs:bp t.kind=s
     ·
      rw[hs]at v;by_cases h0:0<=c
      ·
       cases s <;>
       repeat'(first
|(with_reducible first|apply ac.seq|apply ac.block)
|((with_reducible apply ac.text);(try case hm=>exact rfl))
|(with_reducible first|apply ac.skip|apply az|apply bk)
|((with_reducible apply ac.aA);(case hc=>exact rfl))
|((with_reducible apply ac.aH);(case hc=>exact rfl))
|((with_reducible apply aa.aE);(case hp=>exact aj))
|((with_reducible apply aa.cd);(case hp=>exact aj))
|((with_reducible apply aa.bg)<;>intro V)
|(with_reducible apply aa.ap)
|((with_reducible apply aa.gf);(case hW=>exact rfl))
|((with_reducible apply aa.aD);(case hW=>exact rfl);(case hx=>first
|(exact aq U)
|exact ah))
|((with_reducible apply aa.u0);(case hx=>first
|(exact aq v)
|exact ah))
|fail)
       all_goals first
        |exact⟨q+1,rfl,rfl,⟨by omega,h2⟩,by omega⟩
        |(exfalso;apply y;exact⟨hs,by omega,by omega,by omega⟩)
      ·
       cases s <;>
       repeat'(first
|(with_reducible first|apply ac.seq|apply ac.block)
|((with_reducible apply ac.text);(try case hm=>exact rfl))
|(with_reducible first|apply ac.skip|apply az|apply bk)
|((with_reducible apply ac.aA);(case hc=>exact rfl))
|((with_reducible apply ac.aH);(case hc=>exact rfl))
|((with_reducible apply aa.aE);(case hp=>exact aj))
|((with_reducible apply aa.cA);(case hp=>exact aj))
|(with_reducible apply aa.ap)
|((with_reducible apply aa.gf);(case hW=>exact rfl))
|((with_reducible apply aa.aD);(case hW=>exact rfl);(case hx=>exact ah))
|((with_reducible apply aa.u0);(case hx=>first
|((with_reducible apply ae.vN);(case hx|hy=>exact rfl))
|(exact aq v)
|exact ah))
|fail)
       all_goals exact⟨q+1,rfl,rfl,⟨by omega,h2⟩,by omega⟩
     ·
      have I:bp t.kind=!s:=by cases s <;>simp_all
      rw[I]at v;cases s <;>
      repeat'(first
|(with_reducible first|apply ac.seq|apply ac.block)
|((with_reducible apply ac.text);(try case hm=>exact rfl))
|(with_reducible first|apply ac.skip|apply az|apply bk)
|((with_reducible apply ac.aA);(case hc=>exact rfl))
|((with_reducible apply ac.aH);(case hc=>exact rfl))
|((with_reducible apply aa.aE);(case hp=>exact aj))
|(with_reducible apply aa.ap)
|((with_reducible apply aa.gf);(case hW=>exact rfl))
|((with_reducible apply aa.u0);(case hx=>first
|((with_reducible apply ae.vN);(case hx|hy=>exact rfl))
|(exact aq v)
|exact ah))
|fail)
      all_goals exact⟨q+1,rfl,rfl,⟨by omega,h2⟩,by omega⟩
   ·
    exfalso;rw[CM h3]at h2;cases h2
end Go.Proofs.YtjolgbkkocjpgaaGreatDoor
