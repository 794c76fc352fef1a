/- The reference's scanning of a word,as contracts. No condition. -/
import Derived.Test.YtcgdbhlnkificaaGreatDoorTL
import Derived.Test.YtcgdbhlnkificaaGreatDoorTM
import Derived.Test.YtcgdbhlnkificaaGreatDoorTS
import Derived.Test.YtcgdbhlnkificaaGreatDoorTD
set_option linter.all false
namespace Go.Proofs.YtcgdbhlnkificaaGreatDoor
open Go.RowKit
set_option maxRecDepth 100000
set_option maxHeartbeats 16000000
def AE(t:Tok):List AV:=[.int .i64 t.kind,.int .i64 (t.yu:Int),.int .i64 (t.at_:Int),.int .i64 (t.qJ:Int)]
def l4(l:List Tok):List (List AV):=l.map AE
def NX{l:List UInt8}(hl:l.length<=4096):Cl aj 194 [.t (.str (bs l))] [] (.aN [.ls 0,.t (.int .i64 0)]) [.row false false 4 (l4 (p7 l))]:=by
 have U:(bs l).size=l.length:=eJ l;refine Cl.ap rfl Tryz.func194 rfl rfl rfl ?_;refine aq ?_;refine az.c8 (fun s:Nat×Bool×List Tok=>[(4,.ls 0),(5,.t (.int .i64 (s.1:Int)))]) (fun s=>[.row false s.2.1 4 (l4 s.2.2)]) (fun s=>s.1<=l.length/\s.2.2.length<=s.1/\s.2.2++rM l s.1=p7 l) (fun s=>l.length - s.1) (0,false,[]) rfl rfl ⟨by simp,by simp,rfl⟩ (fun s D=>?_);obtain⟨q,V,T⟩:=s;dsimp only at D⊢;obtain⟨h1,h2,h3⟩:=D;have ks:=NZ (q0:=q) (l:=l) (by omega) h1;have ha:=xr h1;have z:(l4 T).length=T.length:=by simp[l4]
 rcases Nat.lt_or_ge (cF l q) l.length with h4|h4
 ·
  have G:=N2 (l:=l) (by omega) h4;have J:=xV h4;have I:cF l q+(ff (l.drop (cF l q))).2=jw l q:=rfl;rw[I]at G;have v:l4 T++[[.int .i64 (ff (l.drop (cF l q))).1,.int .i64 (q:Int),.int .i64 (cF l q:Int),.int .i64 (jw l q:Int)]]=l4 (T++[⟨(ff (l.drop (cF l q))).1,q,cF l q,jw l q⟩]):=by simp[l4,AE]
  have y:=Oj h1 h4
  repeat'(first
|(with_reducible first|apply ac.seq|apply ac.block)
|((with_reducible apply ac.text);(try case hm=>exact rfl))
|(with_reducible first|apply ac.skip|apply aH)
|((with_reducible apply ac.aR);(case hc=>exact rfl))
|((with_reducible apply aa.aF);(case hp=>exact ak))
|(with_reducible first|apply aa.aB|apply aa.dF)
|((with_reducible apply aa.u);(case hx=>((with_reducible apply af.ei);(case hs=>exact fun _=>rfl);(case ha|ht=>exact rfl);(case hr=>first|(with_reducible exact ec)|(with_reducible exact rw1)|(with_reducible exact ed)|(with_reducible exact rw3)|(with_reducible exact rw4)|exact rfl);(case hx|hy|hn|hb|hok=>exact rfl);(case hlen=>exact oA (by rw[z];simp;omega) (by decide));(case hv=>exact v);(case hk=>exact ez);(case hf=>exact leq))))
|((with_reducible apply aa.u0);(case hx=>first
|(exact ai ks)
|(exact ai G)
|exact ae))
|fail)
  refine⟨(jw l q,true,T++[⟨(ff (l.drop (cF l q))).1,q,cF l q,jw l q⟩]),rfl,rfl,⟨J.2,by simp;omega,?_⟩,by dsimp only;omega⟩;dsimp only;rw[List.append_assoc,List.singleton_append,<- y];exact h3
 ·
  have y:=Oi h1 (by omega);have v:l4 T++[[.int .i64 0,.int .i64 (q:Int),.int .i64 (l.length:Int),.int .i64 (l.length:Int)]]=l4 (p7 l):=by rw[<- h3,y];simp[l4,AE]
  repeat'(first
|(with_reducible apply ac.seq)
|((with_reducible apply ac.text);(try case hm=>exact rfl))
|(with_reducible first|apply ac.exit|apply ac.ret|apply aH|apply da|apply cY)
|((with_reducible apply ac.aY);(case hc=>exact rfl))
|((with_reducible apply aa.bk);(case hp=>exact ak))
|(with_reducible apply aa.aB)
|((with_reducible apply aa.u);(case hx=>((with_reducible apply af.ei);(case hs=>exact fun _=>rfl);(case ha|ht=>exact rfl);(case hr=>first|(with_reducible exact ec)|(with_reducible exact rw1)|(with_reducible exact ed)|(with_reducible exact rw3)|(with_reducible exact rw4)|exact rfl);(case hx|hy|hn|hb|hok=>exact rfl);(case hlen=>exact oA (by rw[z];simp;omega) (by decide));(case hv=>exact v);(case hk=>exact ez);(case hf=>exact leq))))
|((with_reducible apply aa.u0);(case hx=>first
|(exact ai ks)
|exact ae))
|fail)
  exact⟨.inr rfl,rfl⟩
def NW{l:List UInt8}(hl:4096 <l.length):Cl aj 194 [.t (.str (bs l))] [] (.aN [.nil,.t (.int .i64 8)]) []:=by
 have u:(bs l).size=l.length:=eJ l;refine Cl.ap rfl Tryz.func194 rfl rfl rfl ?_;exact ah
def s_(n:Nat):List Tok->Int
 |[t,_]=>if t.at_=0/\t.qJ=n then t.kind else 0
 |_=>0
def Db(l:List UInt8):ou l=if 4096 <l.length then 0 else s_ l.length (p7 l):=by
 unfold ou;split
 ·rfl
 ·unfold s_;split <;>simp_all
def KB{n:Nat}{T:List Tok}(h:T.length≠2):s_ n T=0:=
 match T,h with
 |[],_=>rfl
 |[_],_=>rfl
 |_::_::_::_,_=>rfl
def Nz{l:List UInt8}:Cl aj 182 [.t (.str (bs l))] [] (.t (.int .i64 (ou l))) []:=by
 have U:(bs l).size=l.length:=eJ l;refine Cl.ap rfl Tryz.func182 rfl rfl rfl ?_;by_cases h4:4096 <l.length
 ·
  have ks:=NW h4;have I:ou l=0:=by rw[Db,if_pos h4]
  rw[I];exact ah
 ·
  have ks:=NX (l:=l) (by omega);rw[Db,if_neg h4];obtain⟨T,D⟩:∃T,p7 l=T:=⟨_,rfl⟩;rw[D]at ks⊢;by_cases u:T.length=2
  ·
   obtain⟨a,b,rfl⟩:∃a b,T=[a,b]:=match T,u with|[a,b],_=>⟨a,b,rfl⟩
   have y:(([a,b]:List Tok).length:Int)=2:=rfl;have G:(l4 [a,b])[0]?=some [.int .i64 a.kind,.int .i64 (a.yu:Int),.int .i64 (a.at_:Int),.int .i64 (a.qJ:Int)]:=rfl;have v:s_ l.length [a,b]=if a.at_=0/\a.qJ=l.length then a.kind else 0:=rfl
   rw[v];by_cases h1:a.at_=0
   ·
    by_cases h2:a.qJ=l.length
    ·
     rw[if_pos ⟨h1,h2⟩];exact ah
    ·
     rw[if_neg (fun h=>h2 h.2)];exact ah
   ·
    rw[if_neg (fun h=>h1 h.1)];exact ah
  ·
   have z:s_ l.length T=0:=KB u;rw[z];have J:¬((T.length:Int)=2):=by omega
   exact ah
def ET(s:ByteArray):Cl aj 156 [.t (.str s)] [] (.t (.bool (gq s))) []:=by
 rw[<- BA s];generalize s.data.toList=l;have y:(bs l).size=l.length:=eJ l;have u:gq (bs l)=oF l:=by unfold gq;simp[bs]
 rw[u];have z:=Nz (l:=l);refine Cl.ap rfl Tryz.func156 rfl rfl rfl ?_
 repeat'(first
|((with_reducible apply aa.aX)<;>intro v)
|((with_reducible apply aa.bi)<;>intro v)
|(refine aw ?_)
|((with_reducible apply aa.av);(case hW=>exact rfl);(case hx=>exact ae))
|((with_reducible apply aa.u0);(case hx=>first
|(exact ai z)
|exact ae))
|fail)
 all_goals(refine ba (.inr rfl) rfl ?_;unfold oF;simp_all <;>omega)
def Fg{S:List Int}(hl:S.length<=140737488351232):Cl aj 154 [.t (aD S)] [] (.t (.bool (ck S))) []:=by
 refine Cl.ap rfl Tryz.func154 rfl rfl rfl ?_;refine aq ?_;refine az.ind (fun q:Nat=>[(3,.t (.int .i64 (q:Int)))]) (fun q=>q<=S.length/\ck S=ck (S.drop q)) (fun q=>S.length - q) 0 rfl ⟨by omega,rfl⟩ (fun q u=>?_);obtain⟨h1,h2⟩:=u;rcases Nat.lt_or_ge q S.length with h3|h3
 ·
  obtain⟨n,v⟩:=am h3;have D:=bg v;have y:ck (S.drop q)=((decide (1<=n)&&decide (n<=6))&&ck (S.drop (q+1))):=iT _ v;rw[h2,y]
  repeat'(first
|((with_reducible apply aa.aF);(case hp=>exact ak))
|((with_reducible apply aa.aX)<;>intro u)
|((with_reducible apply aa.bi)<;>intro u)
|(refine aw ?_)
|((with_reducible apply aa.av);(case hW=>exact rfl);(case hx=>exact ae))
|((with_reducible apply aa.u0);(case hx=>exact ae))
|fail)
  all_goals first
   |exact ba (.inr rfl) rfl (by rw[decide_eq_false (show¬1<=n by omega)];rfl)
   |exact ba (.inr rfl) rfl (by rw[decide_eq_false (show¬n<=6 by omega)];simp)
   |exact⟨q+1,rfl,rfl,⟨by omega,by rw[decide_eq_true (show 1<=n by omega),decide_eq_true (show n<=6 by omega)];rfl⟩,by omega⟩
 ·
  have z:ck (S.drop q)=true:=gT _ h3;rw[h2,z];exact ah
def Rb(k:Int):Cl aj 157 [.t (.int .i64 k)] [] (.t (.bool (bz k))) []:=by
 refine Cl.ap rfl Tryz.func157 rfl rfl rfl ?_
 repeat'(first
|((with_reducible apply aa.aX)<;>intro u)
|((with_reducible apply aa.bi)<;>intro u)
|(refine aw ?_)
|((with_reducible apply aa.av);(case hW=>exact rfl);(case hx=>exact ae))
|((with_reducible apply aa.u0);(case hx=>exact ae))
|fail)
 all_goals(refine ba (.inr rfl) rfl ?_;unfold bz;first|(simp_all;done)|(simp_all;omega))
def v6{S C:List Int}(Z:S.length<=140737488351232)(hC:C.length<=140737488351232):Cl aj 155 [.t (aD S),.t (aD C)] [] (.t (.int .i64 (bE S C))) []:=by
 refine Cl.ap rfl Tryz.func155 rfl rfl rfl ?_;have V:=Fg Z;have ab:=aW S;by_cases h3:C.length<=3
 ·
  cases hs:ck S with
  |false=>
   rw[hs]at V;have z:bE S C=0:=by unfold bE;rw[if_neg (by simp[hs])]
   rw[z];exact ah
  |true=>
   rw[hs]at V;have z:bE S C=if C.all (cr S)=true then dx S C else 0:=by unfold bE;simp[hs,h3]
   rw[z];refine aq ?_;refine az.ind (fun q:Nat=>[(5,.t (.int .i64 (dx S (C.take q)))),(6,.t (.int .i64 (q:Int)))]) (fun q=>q<=C.length/\(C.take q).all (cr S)=true) (fun q=>C.length - q) 0 rfl ⟨by omega,by simp⟩ (fun q hq=>?_);obtain⟨h1,h2⟩:=hq;rcases Nat.lt_or_ge q C.length with h4|h4
   ·
    obtain⟨c,v⟩:=am h4;have hc:=bg v
    cases D:cr S c with
    |true=>
     have I:=nC hs (sj h2 v D) (by simp;omega);have y:=zA (S:=S) v;rw[y]at I;have u:=D;simp only[cr,Bool.and_eq_true,decide_eq_true_eq]at u;obtain⟨h0,U⟩:=u;obtain⟨s,G⟩:=am (xs:=S) (k:=c.toNat) (by omega);have hg:=bg G;rw[fL G]at I y;obtain⟨p,hp⟩:∃p,dx S (C.take q)=p:=⟨_,rfl⟩;rw[hp]at I y⊢;refine aq ?_;refine⟨q+1,?_,rfl,⟨by omega,sj h2 v D⟩,by omega⟩;rw[y];rfl
    |false=>
     have J:¬C.all (cr S)=true:=fun h=>by
      have:=List.all_eq_true.1 h c (List.mem_of_getElem? v);rw[D]at this;cases this
     rw[if_neg J]
     have u:c <0\/(S.length:Int)<=c:=by
      by_cases h:0<=c
      ·right
       simp only[cr,decide_eq_true h,Bool.true_and,decide_eq_false_iff_not]at D;omega
      ·exact .inl (by omega)
     rcases u with u|u
     ·
      exact ah
     ·
      exact ah
   ·
    have U:=uy h2 h4;rw[if_pos U,List.take_of_length_le h4];exact ah
 ·
  have z:bE S C=0:=by unfold bE;rw[if_neg (by simp[h3])]
  rw[z];exact ah
def KL{S:List Int}{L:List Tb}(h:¬((S.length<=4/\ck S=true)/\L.length<=12)):bJ S L=false:=by
 rw[<- Bool.not_eq_true];intro u;apply h;simp only[bJ,Bool.and_eq_true,decide_eq_true_eq]at u;exact⟨⟨u.1.1,u.1.2.1⟩,u.1.2.2⟩
def kJ(S:List Int)(L:List Tb)(q:Nat):Bool:=aK (io S L) q (L.drop q)&&(decide (bF S true L<=128)&&decide (bF S false L<=64))
def KM{S:List Int}{L:List Tb}(h:(S.length<=4/\ck S=true)/\L.length<=12):bJ S L=kJ S L 0:=by
 unfold bJ kJ allI;simp[h.1.1,h.1.2,h.2]
def Di{S:List Int}{L:List Tb}{q:Nat}{t:Tb}(h:L[q]?=some t):kJ S L q=(io S L q t&&kJ S L (q+1)):=by
 unfold kJ;rw[qt h,Bool.and_assoc]
def KN{S:List Int}{L:List Tb}{q:Nat}{t:Tb}(h:L[q]?=some t)(hb:¬io S L q t=true):kJ S L q=false:=by
 rw[Di h,Bool.not_eq_true _ |>.mp hb];rfl
def KO{S:List Int}{L:List Tb}{q:Nat}{t:Tb}(h:L[q]?=some t)(hb:io S L q t=true):kJ S L q=kJ S L (q+1):=by
 rw[Di h,hb];rfl
def Gq{S:List Int}{L:List Tb}{q:Nat}{t:Tb}:io S L q t=true↔((L.take q).any fun u=>decide (u.name=t.name))=false/\gq t.name=true/\(0<=t.kind/\t.kind<=5)/\bE S t.au≠0/\((t.lo<=t.hi/\ -9999<=t.lo/\t.hi<=9999)/\(¬(t.kind=0\/t.kind=2\/t.kind=3)\/(t.lo=0/\t.hi=1)))/\t.first=bF S (bz t.kind) (L.take q):=by
 unfold io rG;simp only[Bool.and_eq_true,Bool.or_eq_true,Bool.not_eq_true',decide_eq_true_eq,decide_eq_false_iff_not,Bool.or_eq_false_iff,not_or,ne_eq]
def zT{S:List Int}{L:List Tb}(hS:S.length<=140737488351232)(hL:L.length<=140737488351232)(hC:∀t∈L,t.au.length<=140737488351232):Cl aj 115 [.t (aD S),.t (.arr (bC L))] [] (.t (.bool (bJ S L))) []:=by
 refine Cl.ap rfl Tryz.func115 rfl rfl rfl ?_;have kS:=Fg hS;have aF:=aW S;have aB:=fT L;by_cases h0:(S.length<=4/\ck S=true)/\L.length<=12
 ·
  rw[KM h0];obtain⟨⟨h4,hs⟩,ax⟩:=h0;rw[hs]at kS;refine aq ?_;refine az.ind (fun q:Nat=>[(5,.t (.int .i64 (bF S true (L.take q)))),(6,.t (.int .i64 (bF S false (L.take q)))),(7,.t (.int .i64 (q:Int)))]) (fun q=>q<=L.length/\kJ S L 0=kJ S L q) (fun q=>L.length - q) 0 rfl ⟨by omega,rfl⟩ (fun q I=>?_);obtain⟨h1,h2⟩:=I;rw[h2];rcases Nat.lt_or_ge q L.length with h3|h3
  ·
   obtain⟨t,V⟩:=am h3;have hc:=fB V;have kn:=ET t.name;have kN:=v6 (S:=S) (C:=t.au) hS (hC t (List.mem_of_getElem? V));have U:=Rb t.kind;have v:=KN (S:=S) V;have z:=KO (S:=S) V;rw[Gq]at v z;have G:=uI (S:=S) true V;have D:=uI (S:=S) false V;have ab:=mj (S:=S) true (L.take q);have Z:=mj (S:=S) false (L.take q);have ad:=oG S t.au;have ag:(L.take q).length=q:=by simp;omega
   rw[ag]at ab Z;obtain⟨a,ha⟩:∃a,bF S true (L.take q)=a:=⟨_,rfl⟩;obtain⟨b,hb⟩:∃b,bF S false (L.take q)=b:=⟨_,rfl⟩;obtain⟨N,hN⟩:∃N,bE S t.au=N:=⟨_,rfl⟩;rw[ha]at G ab⊢;rw[hb]at D Z⊢;rw[hN]at G D ad kN v z;refine aq ?_;refine az.ind (fun k:Nat=>[(9,.t (.int .i64 (k:Int)))]) (fun k=>k<=q/\((L.take q).any fun u=>decide (u.name=t.name))=(((L.take q).drop k).any fun u=>decide (u.name=t.name))) (fun k=>q - k) 0 rfl ⟨by omega,rfl⟩ (fun k hk=>?_);obtain⟨g1,g2⟩:=hk;rcases Nat.lt_or_ge k q with g3|g3
   ·
    obtain⟨u,hu⟩:=am (xs:=L) (k:=k) (by omega);have aA:=fB hu;have an:(L.take q)[k]?=some u:=by rw[List.getElem?_take,if_pos g3,hu]
    have hh:=o_ (fun u:Tb=>decide (u.name=t.name)) an;by_cases he:u.name=t.name
    ·
     rw[decide_eq_true he,Bool.true_or]at hh;rw[v (fun h=>by rw[g2,hh]at h;cases h.1)];exact ah
    ·
     rw[decide_eq_false he,Bool.false_or]at hh;refine aq ?_;exact⟨k+1,rfl,rfl,⟨by omega,by rw[g2,hh]⟩,by omega⟩
   ·
    have J:((L.take q).any fun u=>decide (u.name=t.name))=false:=by rw[g2];exact o9 _ (by omega)
    obtain⟨nb,al⟩:∃nb,gq t.name=nb:=⟨_,rfl⟩;rw[al]at kn v z
    cases nb with
    |false=>
     rw[v (fun h=>by cases h.2.1)];exact ah
    |true=>
     cases y:bz t.kind with
     |true=>
      rw[y,ha]at v z;rw[y]at U;rw[y,if_pos rfl]at G;rw[y,if_neg (by decide)]at D
      repeat'(first
|((with_reducible apply aa.bk);(case hp=>exact ak))
|((with_reducible apply aa.aX)<;>intro I)
|((with_reducible apply aa.gA)<;>intro I)
|((with_reducible apply aa.bi)<;>intro I)
|((with_reducible apply aa.fz)<;>intro I)
|(refine aw ?_)
|((with_reducible apply aa.av);(case hW=>exact rfl);(case hx=>exact ae))
|((with_reducible apply aa.u0);(case hx=>first
|(exact ai kN)
|(exact ai kn)
|(exact ai U)
|exact ae))
|fail)
      all_goals first
       |exact ba (.inr rfl) rfl (Eq.symm (v (fun h=>by obtain⟨_,_,_,_,_,_⟩:=h;omega)))
       |(refine⟨q+1,?_,rfl,⟨by omega,z ⟨J,rfl,by omega,by omega,by omega,by omega⟩⟩,by omega⟩;rw[G,D];rfl)
     |false=>
      rw[y,hb]at v z;rw[y]at U;rw[y,if_neg (by decide)]at G;rw[y,if_pos rfl]at D
      repeat'(first
|((with_reducible apply aa.bk);(case hp=>exact ak))
|((with_reducible apply aa.aX)<;>intro I)
|((with_reducible apply aa.gA)<;>intro I)
|((with_reducible apply aa.bi)<;>intro I)
|((with_reducible apply aa.fz)<;>intro I)
|(refine aw ?_)
|((with_reducible apply aa.av);(case hW=>exact rfl);(case hx=>exact ae))
|((with_reducible apply aa.u0);(case hx=>first
|(exact ai kN)
|(exact ai kn)
|(exact ai U)
|exact ae))
|fail)
      all_goals first
       |exact ba (.inr rfl) rfl (Eq.symm (v (fun h=>by obtain⟨_,_,_,_,_,_⟩:=h;omega)))
       |(refine⟨q+1,?_,rfl,⟨by omega,z ⟨J,rfl,by omega,by omega,by omega,by omega⟩⟩,by omega⟩;rw[G,D];rfl)
  ·
   have he:kJ S L q=(decide (bF S true L<=128)&&decide (bF S false L<=64)):=by
    unfold kJ;rw[cL h3];rfl
   rw[he,List.take_of_length_le h3]
   repeat'(first
|((with_reducible apply aa.bk);(case hp=>exact ak))
|((with_reducible apply aa.aX)<;>intro I)
|((with_reducible apply aa.bi)<;>intro I)
|(refine aw ?_)
|((with_reducible apply aa.av);(case hW=>exact rfl);(case hx=>exact ae))
|((with_reducible apply aa.u0);(case hx=>exact ae))
|fail)
   all_goals(refine ba (.inr rfl) rfl ?_;simp;omega)
 ·
  rw[KL h0]
  cases hs:ck S with
  |true=>
   rw[hs]at kS;have ao:¬(S.length<=4/\L.length<=12):=fun h=>h0 ⟨⟨h.1,hs⟩,h.2⟩
   repeat'(first
|((with_reducible apply aa.cj);(case hp=>exact ak))
|((with_reducible apply aa.aX)<;>intro I)
|(refine aw ?_)
|((with_reducible apply aa.av);(case hW=>exact rfl);(case hx=>first
|(exact ai kS)
|exact ae))
|((with_reducible apply aa.u0);(case hx=>exact ae))
|fail)
   all_goals first
    |exact⟨.inr rfl,rfl⟩
    |(exfalso;omega)
  |false=>
   rw[hs]at kS;exact ah
section
variable {g:Cfg} {d:Option (List Nat)} {env:Env} {fr:Fr} {i:Nat}
def af.lK{t:TypeId}{x:Operand}{m:Int}(hx:rd env x=.t (.int .i64 m))(h : -9223372036854775808<=0 - m/\0 - m<=9223372036854775807):af g d i env fr (.unOp .neg t x) (.t (.int .i64 (0 - m))) fr []:=.p rfl rfl (by
 unfold bD;simp only[hx,xa,IntWalk.i64_in _ h])
def af.wF{xt yt:TypeId}{x y:Operand}{m n:Int}(hx:rd env x=.t (.int .i64 m))(hy:rd env y=.t (.int .i64 n)):af g d i env fr (.binOp .sub xt x y yt) (.t (.int .i64 (IntKind.wrap .i64 (m - n)))) fr []:=
 .mg hx hy (by unfold iw;simp only[if_true,lA])
end
def Rd:aj.P.eqGuardType aj.P.depth 149=false:=by kernel_rfl
def wZ(a b u v:Int):gI aj.P 20 149 [.int .i64 a,.int .i64 b] [.int .i64 u,.int .i64 v]=some (decide (a=u)&&(decide (b=v)&&true)):=by kernel_rfl
def N1{A B:List Tm}(V:A.length<=140737488351232)(Z:B.length<=140737488351232):Cl aj 184 [.t (.arr (dU A)),.t (.arr (dU B))] [] (.t (.bool (decide (A=B)))) []:=by
 refine Cl.ap rfl Tryz.func184 rfl rfl rfl ?_;have G:=nG A;have I:=nG B;by_cases D:A.length=B.length
 ·
  have U:decide (A=B)=decide (A.drop 0=B.drop 0):=rfl;refine aq ?_;refine az.ind (fun q:Nat=>[(5,.t (.int .i64 (q:Int)))]) (fun q=>q<=A.length/\decide (A=B)=decide (A.drop q=B.drop q)) (fun q=>A.length - q) 0 rfl ⟨by omega,rfl⟩ (fun q J=>?_);obtain⟨h1,h2⟩:=J;rw[h2];rcases Nat.lt_or_ge q A.length with h3|h3
  ·
   obtain⟨x,hx⟩:=am h3;obtain⟨y,hy⟩:=am (xs:=B) (k:=q) (by omega);have hc:=oU hx;have hd:=oU hy;by_cases z:x=y
   ·
    have u:decide (A.drop q=B.drop q)=decide (A.drop (q+1)=B.drop (q+1)):=by rw[bG hx,bG hy,z];simp
    have v:gI aj.P 20 149 [.int .i64 x.cell,.int .i64 x.bZ] [.int .i64 y.cell,.int .i64 y.bZ]=some true:=by rw[wZ,z];simp
    repeat'(first
|((with_reducible apply aa.aF);(case hp=>exact ak))
|(refine aw ?_)
|((with_reducible apply aa.u0);(case hx=>first
|((with_reducible apply af.rn);(case hx|hy=>exact rfl);(case hg=>exact Rd);(case ht=>exact rfl);(case hr=>exact v))
|exact ae))
|fail)
    exact⟨q+1,rfl,rfl,⟨by omega,u⟩,by omega⟩
   ·
    have u:decide (A.drop q=B.drop q)=false:=by rw[bG hx,bG hy];simp[z]
    have v:gI aj.P 20 149 [.int .i64 x.cell,.int .i64 x.bZ] [.int .i64 y.cell,.int .i64 y.bZ]=some false:=by
     rw[wZ];obtain⟨x1,x2⟩:=x;obtain⟨y1,y2⟩:=y;simp at z⊢;exact z
    rw[u]
    repeat'(first
|((with_reducible apply aa.aF);(case hp=>exact ak))
|(refine aw ?_)
|((with_reducible apply aa.u0);(case hx=>first
|((with_reducible apply af.rn);(case hx|hy=>exact rfl);(case hg=>exact Rd);(case ht=>exact rfl);(case hr=>exact v))
|exact ae))
|fail)
    exact⟨.inr rfl,rfl⟩
  ·
   have u:decide (A.drop q=B.drop q)=true:=by rw[eY h3,eY (l:=B) (by omega)];rfl
   rw[u];exact ah
 ·
  have u:decide (A=B)=false:=by simp;intro h;exact D (by rw[h])
  rw[u];exact ah
def Fe{A B:Rw}(z:A.bt.length<=140737488351232)(D:B.bt.length<=140737488351232):Cl aj 160 [.t (.agg (fa A)),.t (.agg (fa B))] [] (.t (.bool (decide (A=B)))) []:=by
 obtain⟨T,n⟩:=A;obtain⟨U,m⟩:=B;have I:=N1 (A:=T) (B:=U) z D;have v:fa ⟨T,n⟩=[.arr (dU T),.int .i64 n]:=rfl;have y:fa ⟨U,m⟩=[.arr (dU U),.int .i64 m]:=rfl;rw[v,y];refine Cl.ap rfl Tryz.func160 rfl rfl rfl ?_;by_cases h1:n=m
 ·
  have u:decide ((⟨T,n⟩:Rw)=⟨U,m⟩)=decide (T=U):=by simp[h1]
  rw[u];obtain⟨b,G⟩:∃b,decide (T=U)=b:=⟨_,rfl⟩;rw[G]at I⊢
  cases b with
  |true=>
   exact ah
  |false=>
   exact ah
 ·
  have u:decide ((⟨T,n⟩:Rw)=⟨U,m⟩)=false:=by simp[h1]
  rw[u];exact ah
def D_(L:List ByteArray):pW 1 (cq L)=true:=by
 cases L <;>rfl
def Gu(L:List ByteArray)(k:Nat):(cq L).take k=(L.take k).map fun s=>[.str s]:=by simp[cq,List.map_take]
def B5{L:List ByteArray}{q:Nat}{s:ByteArray}(h:L[q]?=some s)(hb:¬(gq s=true/\((L.take q).any fun u=>decide (u=s))=false)):aK (ju L) q (L.drop q)=false:=by
 rw[qt h]
 have:ju L q s=false:=by
  rw[<- Bool.not_eq_true];intro v;simp only[ju,Bool.and_eq_true,Bool.not_eq_true']at v;exact hb v
 rw[this];rfl
def B6{L:List ByteArray}{q:Nat}{s:ByteArray}(h:L[q]?=some s)(h1:gq s=true)(h2:((L.take q).any fun u=>decide (u=s))=false):aK (ju L) q (L.drop q)=aK (ju L) (q+1) (L.drop (q+1)):=by
 rw[qt h];unfold ju;rw[h1,h2];rfl
def EI{L:List ByteArray}(hl:L.length<=140737488351232):Cl aj 116 [.t (.arr (cq L))] [] (.t (.bool (gH L))) []:=by
 have I:=ny L;have J:gH L=aK (ju L) 0 (L.drop 0):=rfl;rw[J];refine Cl.ap rfl Tryz.func116 rfl rfl rfl ?_;refine aq ?_;refine az.ind (fun q:Nat=>[(3,.t (.int .i64 (q:Int)))]) (fun q=>q<=L.length/\aK (ju L) 0 (L.drop 0)=aK (ju L) q (L.drop q)) (fun q=>L.length - q) 0 rfl ⟨by omega,rfl⟩ (fun q U=>?_);obtain⟨h1,h2⟩:=U;rw[h2];rcases Nat.lt_or_ge q L.length with h3|h3
 ·
  obtain⟨s,hs⟩:=am h3;have V:=D3 hs;have D:=ET s;have z:=EN (L:=L.take q) (s:=s) (by simp;omega);have v:=B5 hs;have G:=B6 hs
  cases hn:gq s with
  |false=>
   rw[hn]at D;rw[v (fun h=>by rw[hn]at h;cases h.1)];exact ah
  |true=>
   rw[hn]at D
   cases y:(L.take q).any fun u=>decide (u=s)with
   |true=>
    rw[y]at z;rw[v (fun h=>by rw[y]at h;cases h.2)]
    repeat'(first
|((with_reducible apply aa.aF);(case hp=>exact ak))
|(refine aw ?_)
|((with_reducible apply aa.av);(case hW=>exact rfl);(case hx=>first
|((with_reducible apply af.F0);(case he|hx|hi=>exact rfl);(case hn=>(rw[I];omega));(case hz=>exact D_ _);(case hv=>exact Gu _ _))
|(exact ai z)
|exact ae))
|((with_reducible apply aa.u0);(case hx=>first
|(exact ai D)
|exact ae))
|fail)
    exact⟨.inr rfl,rfl⟩
   |false=>
    rw[y]at z
    repeat'(first
|((with_reducible apply aa.aF);(case hp=>exact ak))
|(refine aw ?_)
|((with_reducible apply aa.av);(case hW=>exact rfl);(case hx=>first
|((with_reducible apply af.F0);(case he|hx|hi=>exact rfl);(case hn=>(rw[I];omega));(case hz=>exact D_ _);(case hv=>exact Gu _ _))
|(exact ai z)
|exact ae))
|((with_reducible apply aa.u0);(case hx=>first
|(exact ai D)
|exact ae))
|fail)
    exact⟨q+1,rfl,rfl,⟨by omega,G hn y⟩,by omega⟩
 ·
  rw[cL h3];exact ah
def M6(n:Int):Cl aj 163 [.t (.int .i64 n),.t (.int .i64 1000)] [] (.t (.bool (cA n 1000))) []:=by
 refine Cl.ap rfl Tryz.func163 rfl rfl rfl ?_
 repeat'(first
|((with_reducible apply aa.aX)<;>intro u)
|((with_reducible apply aa.bi)<;>intro u)
|(refine aw ?_)
|((with_reducible apply aa.av);(case hW=>exact rfl);(case hx=>exact ae))
|((with_reducible apply aa.u0);(case hx=>first
|((with_reducible apply af.lK);(case hx=>exact rfl);(case h=>omega))
|exact ae))
|fail)
 all_goals(refine ba (.inr rfl) rfl ?_;unfold cA;first|(simp_all;done)|(simp_all;omega))
def M7(n:Int):Cl aj 163 [.t (.int .i64 n),.t (.int .i64 9999)] [] (.t (.bool (cA n 9999))) []:=by
 refine Cl.ap rfl Tryz.func163 rfl rfl rfl ?_
 repeat'(first
|((with_reducible apply aa.aX)<;>intro u)
|((with_reducible apply aa.bi)<;>intro u)
|(refine aw ?_)
|((with_reducible apply aa.av);(case hW=>exact rfl);(case hx=>exact ae))
|((with_reducible apply aa.u0);(case hx=>first
|((with_reducible apply af.lK);(case hx=>exact rfl);(case h=>omega))
|exact ae))
|fail)
 all_goals(refine ba (.inr rfl) rfl ?_;unfold cA;first|(simp_all;done)|(simp_all;omega))
def EG(n:Int):Cl aj 163 [.t (.int .i64 n),.t (.int .i64 1000000000)] [] (.t (.bool (cA n 1000000000))) []:=by
 refine Cl.ap rfl Tryz.func163 rfl rfl rfl ?_
 repeat'(first
|((with_reducible apply aa.aX)<;>intro u)
|((with_reducible apply aa.bi)<;>intro u)
|(refine aw ?_)
|((with_reducible apply aa.av);(case hW=>exact rfl);(case hx=>exact ae))
|((with_reducible apply aa.u0);(case hx=>first
|((with_reducible apply af.lK);(case hx=>exact rfl);(case h=>omega))
|exact ae))
|fail)
 all_goals(refine ba (.inr rfl) rfl ?_;unfold cA;first|(simp_all;done)|(simp_all;omega))
def PR{n:Int}{l:List Tm}{i:Nat}{t:Tm}:fU n l i t=true↔(0<=t.cell/\t.cell <n)/\(i=0\/(l.getD (i - 1) ⟨0,0⟩).cell <t.cell)/\t.bZ≠0/\cA t.bZ 1000=true:=by
 unfold fU;simp only[Bool.and_eq_true,Bool.or_eq_true,Bool.not_eq_true',decide_eq_true_eq,decide_eq_false_iff_not,ne_eq]
section
variable {α:Type} {p:Nat->α->Bool} {l:List α} {q:Nat} {x:α}
def dl(h:l[q]?=some x)(hb:¬p q x=true):aK p q (l.drop q)=false:=by
 rw[qt h,Bool.not_eq_true _ |>.mp hb];rfl
def dm(h:l[q]?=some x)(hb:p q x=true):aK p q (l.drop q)=aK p (q+1) (l.drop (q+1)):=by
 rw[qt h,hb];rfl
end
def Fc{n:Int}{r:Rw}(hl:r.bt.length<=140737488351232):Cl aj 161 [.t (.agg (fa r)),.t (.int .i64 n)] [] (.t (.bool (cI n r))) []:=by
 obtain⟨T,B⟩:=r;have e1:fa ⟨T,B⟩=[.arr (dU T),.int .i64 B]:=rfl;have e2:cI n ⟨T,B⟩=(aK (fU n T) 0 (T.drop 0)&&cA B 1000000000):=rfl;rw[e1,e2];have hl:T.length<=140737488351232:=hl;have hT:=nG T;have kB:=EG B;refine Cl.ap rfl Tryz.func161 rfl rfl rfl ?_;refine aq ?_;refine az.ind (fun q:Nat=>[(5,.t (.int .i64 (q:Int)))]) (fun q=>q<=T.length/\aK (fU n T) 0 (T.drop 0)=aK (fU n T) q (T.drop q)) (fun q=>T.length - q) 0 rfl ⟨by omega,rfl⟩ (fun q z=>?_);obtain⟨h1,h2⟩:=z;rw[h2];rcases Nat.lt_or_ge q T.length with h3|h3
 ·
  obtain⟨t,J⟩:=am h3;have hc:=oU J;have U:=M6 t.bZ;have v:=dl (p:=fU n T) J;have y:=dm (p:=fU n T) J;rw[PR]at v y;obtain⟨V,D⟩:∃b,cA t.bZ 1000=b:=⟨_,rfl⟩;rw[D]at U v y
  cases q with
  |zero=>
   cases V with
   |false=>
    rw[v (fun h=>by cases h.2.2.2)];exact ah
   |true=>
    repeat'(first
|(refine a8 ?_)
|((with_reducible apply aa.aX)<;>intro z)
|((with_reducible apply aa.bi)<;>intro z)
|(refine aw ?_)
|((with_reducible apply aa.av);(case hW=>exact rfl);(case hx=>first
|(exact ai U)
|exact ae))
|((with_reducible apply aa.u0);(case hx=>exact ae))
|fail)
    all_goals first
     |exact ba (.inr rfl) rfl (by rw[v (fun h=>by obtain⟨_,_,_,_⟩:=h;omega)];rfl)
     |exact⟨0+1,rfl,rfl,⟨by omega,y ⟨by omega,.inl rfl,by omega,rfl⟩⟩,by omega⟩
  |succ k=>
   obtain⟨u,hu⟩:=am (xs:=T) (k:=k) (by omega);have G:=oU hu;have Z:(dU T)[((k+1:Nat) - 1:Int).toNat]?=some [.int .i64 u.cell,.int .i64 u.bZ]:=by rw[show((k+1:Nat) - 1:Int).toNat=k by omega];exact G
   have I:T.getD (k+1 - 1) ⟨0,0⟩=u:=by rw[Nat.add_sub_cancel,List.getD_eq_getElem?_getD,hu];rfl
   rw[I]at v y
   cases V with
   |false=>
    rw[v (fun h=>by cases h.2.2.2)];exact ah
   |true=>
    repeat'(first
|(refine a8 ?_)
|((with_reducible apply aa.aX)<;>intro z)
|((with_reducible apply aa.bi)<;>intro z)
|(refine aw ?_)
|((with_reducible apply aa.av);(case hW=>exact rfl);(case hx=>first
|(exact ai U)
|exact ae))
|((with_reducible apply aa.u0);(case hx=>exact ae))
|fail)
    all_goals first
     |exact ba (.inr rfl) rfl (by rw[v (fun h=>by obtain⟨_,_,_,_⟩:=h;omega)];rfl)
     |exact⟨k+1+1,rfl,rfl,⟨by omega,y ⟨by omega,.inr (by omega),by omega,rfl⟩⟩,by omega⟩
 ·
  rw[cL h3];exact ah
set_option maxRecDepth 100000
set_option maxHeartbeats 16000000
def EM(l m:List (Int×Int)):bO l++bO m=bO (l++m):=by unfold bO;rw[List.map_append]
def KV{n:Nat}(h:n<=4000):cn n 16=true:=by simp[cn];omega
def jN(S:List Int)(L:List Tb)(s:Bool)(q k:Nat)(t:Tb):List (Int×Int):=(L.take q).flatMap (eC S s)++List.replicate k (t.lo,t.hi)
def NF{S:List Int}{L:List Tb}{s:Bool}{q k:Nat}{t:Tb}:jN S L s q k t++[(t.lo,t.hi)]=jN S L s q (k+1) t:=by
 unfold jN;rw[EL,List.append_assoc]
def NE{S:List Int}{L:List Tb}{s:Bool}{q k:Nat}{t:Tb}(ht:L[q]?=some t)(hs:bz t.kind=s)(hk:(bE S t.au).toNat=k):jN S L s q k t=(L.take (q+1)).flatMap (eC S s):=by
 unfold jN;rw[sQ ht];unfold eC;rw[if_pos hs,hk]
def EU{S:List Int}{L:List Tb}{s:Bool}{q:Nat}{t:Tb}(ht:L[q]?=some t)(hs:bz t.kind≠s):(L.take q).flatMap (eC S s)=(L.take (q+1)).flatMap (eC S s):=by
 rw[sQ ht];unfold eC;rw[if_neg hs,List.append_nil]
def NV{S:List Int}{L:List Tb}(s:Bool)(hS:S.length<=140737488351232)(hL:L.length<=140737488351232)(hC:∀t∈L,t.au.length<=140737488351232):Cl aj 183 [.t (aD S),.t (.arr (bC L)),.t (.bool s)] [] (.ls 0) [.row false false 2 (bO (bW S L s))]:=by
 have kv:=zT hS hL hC;have ag:=aW S;have ad:=fT L
 cases hv:bJ S L with
 |false=>
  have hr:bW S L s=[]:=by unfold bW;rw[hv];rfl
  rw[hv]at kv;rw[hr];refine Cl.ap rfl Tryz.func183 rfl rfl rfl ?_;exact ah
 |true=>
  have hr:bW S L s=L.flatMap (eC S s):=by unfold bW;rw[hv];rfl
  have ab:=kK hv;rw[hv]at kv;rw[hr];refine Cl.ap rfl Tryz.func183 rfl rfl rfl ?_;refine aq ?_;refine az.c8 (fun x:Nat×Bool=>[(7,.ls 0),(8,.t (.int .i64 (x.1:Int)))]) (fun x=>[.row false x.2 2 (bO ((L.take x.1).flatMap (eC S s)))]) (fun x=>x.1<=L.length) (fun x=>L.length - x.1) (0,false) rfl rfl (by simp) (fun x hq=>?_);obtain⟨q,z⟩:=x;dsimp only at hq⊢;rcases Nat.lt_or_ge q L.length with h3|h3
  ·
   obtain⟨t,ht⟩:=am h3;have hc:=fB ht;have kN:=v6 (S:=S) (C:=t.au) hS (hC t (List.mem_of_getElem? ht));have v:=Rb t.kind;have I:=oG S t.au;have al:=EW S s (L.take q);have an:(L.take q).length<=12:=by simp;omega
   by_cases hs:bz t.kind=s
   ·
    rw[hs]at v;obtain⟨N,hN⟩:∃N,(bE S t.au).toNat=N:=⟨_,rfl⟩;have G:bE S t.au=(N:Int):=by omega
    have y:=NE ht hs hN;rw[G]at kN I;have h0:(L.take q).flatMap (eC S s)=jN S L s q 0 t:=by unfold jN;simp
    rw[h0];have J:∀k,(jN S L s q k t).length<=2592+k:=fun k=>by unfold jN;rw[List.length_append,List.length_replicate];omega
    refine aq ?_;refine az.c8 (fun x:Nat×Bool=>[(7,.ls 0),(9,.t (.int .i64 (x.1:Int)))]) (fun x=>[.row false x.2 2 (bO (jN S L s q x.1 t))]) (fun x=>x.1<=N) (fun x=>N - x.1) (0,z) rfl rfl (by simp) (fun x hk=>?_);obtain⟨k,D⟩:=x;dsimp only at hk⊢;rcases Nat.lt_or_ge k N with h4|h4
    ·
     have V:bO (jN S L s q k t)++[[.int .i64 t.lo,.int .i64 t.hi]]=bO (jN S L s q (k+1) t):=by rw[<- NF];exact EM _ [(t.lo,t.hi)]
     have U:cn ((bO (jN S L s q k t)).length+1) 16=true:=by
      have:=J k;rw[lQ];exact KV (by omega)
     cases s <;>
     repeat'(first
|(with_reducible first|apply ac.seq|apply ac.block)
|((with_reducible apply ac.text);(try case hm=>exact rfl))
|(with_reducible first|apply ac.skip|apply aH)
|((with_reducible apply ac.aR);(case hc=>exact rfl))
|((with_reducible apply aa.cj);(case hp=>exact ak))
|(with_reducible first|apply aa.aB|apply aa.dF)
|((with_reducible apply aa.u);(case hx=>((with_reducible apply af.ei);(case hs=>exact fun _=>rfl);(case ha|ht=>exact rfl);(case hr=>first|(with_reducible exact ec)|(with_reducible exact rw1)|(with_reducible exact ed)|(with_reducible exact rw3)|(with_reducible exact rw4)|exact rfl);(case hx|hy|hn|hb|hok=>exact rfl);(case hlen=>exact U);(case hv=>exact V);(case hk=>exact ez);(case hf=>exact leq))))
|((with_reducible apply aa.av);(case hW=>exact rfl);(case hx=>first
|(exact ai kN)
|exact ae))
|((with_reducible apply aa.u0);(case hx=>first
|(exact ai v)
|exact ae))
|fail)
     all_goals exact⟨(k+1,true),rfl,rfl,by dsimp only;omega,by dsimp only;omega⟩
    ·
     obtain rfl:k=N:=by omega
     rw[y];cases s <;>
     refine aq ?_
     all_goals exact⟨(q+1,D),rfl,rfl,by dsimp only;omega,by dsimp only;omega⟩
   ·
    have Z:bz t.kind=!s:=by cases s <;>simp_all
    rw[Z]at v;rw[EU ht hs];refine aq ?_;refine az.step ?_;cases s <;>
    refine aq ?_
    all_goals exact⟨(q+1,z),rfl,rfl,by dsimp only;omega,by dsimp only;omega⟩
  ·
   rw[List.take_of_length_le h3];exact ah
def LM(fr:Fr)(m n:Int):gZ aj.P fr 22 (.t (.int .i64 m)) (.t (.int .i64 n))=match decide (0<=m)&&decide (m<=n)&&Nat.ble (n.toNat*8) 281474976710656&&Nat.ble n.toNat 140737488351232 with
  |true=>some (.ls fr.length,fr++[.row false false 1 (List.replicate m.toNat [.int .i64 0])],[])
  |false=>none:=by kernel_rfl
def DP{fr:Fr}{n:Nat}(h:n<=1000):gZ aj.P fr 22 (.t (.int .i64 (n:Int))) (.t (.int .i64 (n:Int)))=some (.ls fr.length,fr++[.row false false 1 (aL (List.replicate n 0))],[]):=by
 have e:(decide (0<=(n:Int))&&decide ((n:Int)<=n)&&Nat.ble ((n:Int).toNat*8) 281474976710656&&Nat.ble (n:Int).toNat 140737488351232)=true:=by
  rw[Int.toNat_natCast];have h1:Nat.ble (n*8) 281474976710656=true:=by rw[Nat.ble_eq];omega
  have h2:Nat.ble n 140737488351232=true:=by rw[Nat.ble_eq];omega
  rw[h1,h2];simp
 rw[LM,e];simp[aL]
def NM{S C:List Int}{K:Int}(hs:ck S=true)(hc:C.all (cr S)=true)(hS:S.length<=140737488351232)(hC:C.length<=3)(h0:0<=K)(hK:K<=1000):Cl aj 195 [.t (aD S),.t (aD C),.t (.int .i64 K)] [] (.ls 0) [.row false false 1 (aL (pV S C K))]:=by
 have ag:=aW S;have ad:=aW C;have hm:=DP (fr:=[]) (n:=C.length) (by omega);have I:=aW (List.replicate C.length 0);rw[List.length_replicate]at I;refine Cl.ap rfl Tryz.func195 rfl rfl rfl ?_
 repeat'(first
|(refine aw ?_)
|((with_reducible apply aa.u0);(case hx=>first
|((with_reducible apply af.dY);(case hs=>exact fun _=>rfl);(case hl|hc|hd=>exact rfl);(case hm=>exact hm);(case hf=>exact leq))
|exact ae))
|fail)
 apply ac.cR
 case ho=>exact rfl
 case hp=>exact rfl
 case hl=>exact rfl
 case hs=>exact slt
 refine az.c8 (fun x:Nat×Int×List Int=>[(2,.t (.int .i64 x.2.1)),(8,.t (.int .i64 ((x.1:Int) - 1)))]) (fun x=>[.row false false 1 (aL x.2.2)]) (fun x=>x.1<=C.length/\0<=x.2.1/\x.2.1<=1000/\x.2.2.length=C.length/\ja S C x.1 x.2.1 x.2.2=pV S C K) (fun x=>x.1) (C.length,K,List.replicate C.length 0) rfl rfl ⟨by dsimp only;omega,h0,hK,by simp,rfl⟩ (fun x hx=>?_);obtain⟨j,k,r⟩:=x;dsimp only at hx⊢;obtain⟨h1,h2,h3,h4,h5⟩:=hx
 cases j with
 |zero=>
  rw[<- h5];exact ah
 |succ j=>
  obtain⟨c,u⟩:=am (xs:=C) (k:=j) (by omega);have ab:=bg u;have y:=List.all_eq_true.1 hc c (List.mem_of_getElem? u);obtain⟨g1,g2⟩:=uJ hs y;simp only[cr,Bool.and_eq_true,decide_eq_true_eq]at y;obtain⟨g3,g4⟩:=y;obtain⟨s,z⟩:=am (xs:=S) (k:=c.toNat) (by omega);have an:=bg z;rw[fL z]at g1 g2;obtain⟨v,hv⟩:=am (xs:=r) (k:=j) (by omega);have V:=bg hv;have al:=aW r;have ej:(((j+1:Nat):Int) - 1)=(j:Int):=by omega
  rw[ej];have J:(aL r)[((j:Nat):Int).toNat]?=some [.int .i64 v]:=by rw[Int.toNat_natCast];exact V
  have U:(aL r).set ((j:Nat):Int).toNat [.int .i64 (k.tmod s)]=aL (r.set j (k.tmod s)):=by rw[Int.toNat_natCast];simp[aL,List.map_set]
  have hd:0<=k.tdiv s/\k.tdiv s<=k:=by
   rw[Int.tdiv_eq_ediv_of_nonneg h2];exact⟨Int.ediv_nonneg h2 (by omega),Int.ediv_le_self _ h2⟩
  have G:ja S C (j+1) k r=ja S C j (k.tdiv s) (r.set j (k.tmod s)):=by
   have e1:C.getD j 0=c:=fL u;have e2:S.getD c.toNat 0=s:=fL z;rw[ja,e1,e2]
  obtain⟨Z,D⟩:∃Z,k.tdiv s=Z:=⟨_,rfl⟩;rw[D]at hd G
  repeat'(first
|((with_reducible apply aa.aF);(case hp=>exact ak))
|(refine aw ?_)
|((with_reducible apply aa.u0);(case hx=>first
|((with_reducible apply af.nE);(case hx|hy=>exact rfl);(case hn=>omega);(case h=>exact rfl))
|((with_reducible apply af.iI);(case hx|hy=>exact rfl);(case hn=>omega);(case h=>exact D);(case hb=>omega))
|((with_reducible apply af.Av);(case hs=>exact fun _=>rfl);(case ha|hy|ht|hone=>exact rfl);(case hn=>kernel_rfl);(case hb=>exact rfl);(case hk=>exact J);(case hj=>exact rfl);(case hv=>exact U);(case hf=>exact leq))
|exact ae))
|fail)
  exact⟨(j,Z,r.set j (k.tmod s)),rfl,rfl,⟨by dsimp only;omega,by dsimp only;omega,by dsimp only;omega,by simp[h4],by dsimp only;rw[<- G];exact h5⟩,by dsimp only;omega⟩
def sW{S:List Int}{s:Bool}{c:Int}{t:Tb}:eO S s c t=true↔bz t.kind=s/\0<=c/\0<=c - t.first/\c - t.first <bE S t.au:=by
 unfold eO;simp only[Bool.and_eq_true,decide_eq_true_eq]
def vA{S:List Int}{L:List Tb}(h:bJ S L=true){k:Nat}{t:Tb}(ht:L[k]?=some t):0<=t.first/\t.first<=5000:=by
 have h1:=rf h ht;simp only[io,Bool.and_eq_true,decide_eq_true_eq]at h1;have h2:=mj (S:=S) (bz t.kind) (L.take k);have h3:=kK h;have h4:(L.take k).length<=L.length:=by simp;omega
 omega
def N3{S:List Int}{L:List Tb}{s:Bool}{c:Int}(hS:S.length<=140737488351232)(hL:L.length<=140737488351232)(hC:∀t∈L,t.au.length<=140737488351232)(hc:c<=9223372036854775807):match fe S L s c with
  |some (i,t)=>Cl aj 185 [.t (aD S),.t (.arr (bC L)),.t (.bool s),.t (.int .i64 c)] [] (.aN [.t (.int .i64 (i:Int)),.ls 0,.t (.bool true)]) [.row false false 1 (aL (pV S t.au (c - t.first)))]
  |none=>Cl aj 185 [.t (aD S),.t (.arr (bC L)),.t (.bool s),.t (.int .i64 c)] [] (.aN [.t (.int .i64 0),.nil,.t (.bool false)]) []:=by
 have kv:=zT hS hL hC;have an:=aW S;have al:=fT L
 cases J:bJ S L with
 |false=>
  have hr:fe S L s c=none:=by unfold fe;rw[J];rfl
  rw[J]at kv;rw[hr];refine Cl.ap rfl Tryz.func185 rfl rfl rfl ?_;exact ah
 |true=>
  have hr:fe S L s c=fK (eO S s c) 0 L:=by unfold fe;rw[J];rfl
  rw[J]at kv;rw[hr]
  cases hf:fK (eO S s c) 0 L with
  |none=>
   show Cl aj 185 _ [] _ []
   refine Cl.ap rfl Tryz.func185 rfl rfl rfl ?_;refine aq ?_;refine az.ind (fun q:Nat=>[(11,.t (.int .i64 (q:Int)))]) (fun q=>q<=L.length/\fK (eO S s c) q (L.drop q)=none) (fun q=>L.length - q) 0 rfl ⟨by omega,hf⟩ (fun q V=>?_);obtain⟨h1,h2⟩:=V;rcases Nat.lt_or_ge q L.length with h3|h3
   ·
    obtain⟨t,D⟩:=am h3;have ad:=fB D;have U:=v6 (S:=S) (C:=t.au) hS (hC t (List.mem_of_getElem? D));have v:=Rb t.kind;obtain⟨f0,f1⟩:=vA J D;rw[u5 D]at h2;obtain⟨N,Z⟩:∃N,bE S t.au=N:=⟨_,rfl⟩
    cases z:eO S s c t with
    |true=>rw[z]at h2;cases h2
    |false=>
     rw[z]at h2;have y:¬(bz t.kind=s/\0<=c/\0<=c - t.first/\c - t.first <bE S t.au):=fun h=>by rw[sW.2 h]at z;cases z
     rw[Z]at U y;by_cases hs:bz t.kind=s
     ·
      rw[hs]at v;by_cases h0:0<=c
      ·
       cases s <;>
       repeat'(first
|(refine a8 ?_)
|((with_reducible apply aa.bi)<;>intro V)
|(refine aw ?_)
|((with_reducible apply aa.av);(case hW=>exact rfl);(case hx=>first
|(exact ai U)
|exact ae))
|((with_reducible apply aa.u0);(case hx=>first
|(exact ai v)
|exact ae))
|fail)
       all_goals first
        |exact⟨q+1,rfl,rfl,⟨by omega,h2⟩,by omega⟩
        |(exfalso;apply y;exact⟨hs,by omega,by omega,by omega⟩)
      ·
       cases s <;>
       repeat'(first
|(refine a8 ?_)
|(refine aw ?_)
|((with_reducible apply aa.av);(case hW=>exact rfl);(case hx=>exact ae))
|((with_reducible apply aa.u0);(case hx=>first
|((with_reducible apply af.wF);(case hx|hy=>exact rfl))
|(exact ai v)
|exact ae))
|fail)
       all_goals exact⟨q+1,rfl,rfl,⟨by omega,h2⟩,by omega⟩
     ·
      have I:bz t.kind=!s:=by cases s <;>simp_all
      rw[I]at v;cases s <;>
      repeat'(first
|((with_reducible apply aa.aF);(case hp=>exact ak))
|(refine aw ?_)
|((with_reducible apply aa.u0);(case hx=>first
|((with_reducible apply af.wF);(case hx|hy=>exact rfl))
|(exact ai v)
|exact ae))
|fail)
      all_goals exact⟨q+1,rfl,rfl,⟨by omega,h2⟩,by omega⟩
   ·
    exact ah
  |some it=>
   obtain⟨i,u⟩:=it;have ag:=wY hf;show Cl aj 185 _ [] _ _
   refine Cl.ap rfl Tryz.func185 rfl rfl rfl ?_;refine aq ?_;refine az.ind (fun q:Nat=>[(11,.t (.int .i64 (q:Int)))]) (fun q=>q<=L.length/\fK (eO S s c) q (L.drop q)=some (i,u)) (fun q=>L.length - q) 0 rfl ⟨by omega,hf⟩ (fun q V=>?_);obtain⟨h1,h2⟩:=V;rcases Nat.lt_or_ge q L.length with h3|h3
   ·
    obtain⟨t,D⟩:=am h3;have ad:=fB D;have U:=v6 (S:=S) (C:=t.au) hS (hC t (List.mem_of_getElem? D));have v:=Rb t.kind;obtain⟨f0,f1⟩:=vA J D;obtain⟨c1,c2,c3⟩:=lD J D;have ab:=oG S t.au;rw[u5 D]at h2;obtain⟨N,Z⟩:∃N,bE S t.au=N:=⟨_,rfl⟩
    cases z:eO S s c t with
    |true=>
     rw[z,if_pos rfl]at h2;obtain⟨rfl,rfl⟩:q=i/\t=u:=by cases h2;exact⟨rfl,rfl⟩
     have G:=sW.1 z;rw[Z]at U G ab;obtain⟨y1,y2,y3,y4⟩:=G;rw[y1]at v;have kt:=NM (S:=S) (C:=t.au) (K:=c - t.first) c2 c3 hS c1 y3 (by omega);cases s <;>
     exact ah
    |false=>
     rw[z]at h2;have y:¬(bz t.kind=s/\0<=c/\0<=c - t.first/\c - t.first <bE S t.au):=fun h=>by rw[sW.2 h]at z;cases z
     rw[Z]at U y;by_cases hs:bz t.kind=s
     ·
      rw[hs]at v;by_cases h0:0<=c
      ·
       cases s <;>
       repeat'(first
|(refine a8 ?_)
|((with_reducible apply aa.bi)<;>intro V)
|(refine aw ?_)
|((with_reducible apply aa.av);(case hW=>exact rfl);(case hx=>first
|(exact ai U)
|exact ae))
|((with_reducible apply aa.u0);(case hx=>first
|(exact ai v)
|exact ae))
|fail)
       all_goals first
        |exact⟨q+1,rfl,rfl,⟨by omega,h2⟩,by omega⟩
        |(exfalso;apply y;exact⟨hs,by omega,by omega,by omega⟩)
      ·
       cases s <;>
       repeat'(first
|(refine a8 ?_)
|(refine aw ?_)
|((with_reducible apply aa.av);(case hW=>exact rfl);(case hx=>exact ae))
|((with_reducible apply aa.u0);(case hx=>first
|((with_reducible apply af.wF);(case hx|hy=>exact rfl))
|(exact ai v)
|exact ae))
|fail)
       all_goals exact⟨q+1,rfl,rfl,⟨by omega,h2⟩,by omega⟩
     ·
      have I:bz t.kind=!s:=by cases s <;>simp_all
      rw[I]at v;cases s <;>
      repeat'(first
|((with_reducible apply aa.aF);(case hp=>exact ak))
|(refine aw ?_)
|((with_reducible apply aa.u0);(case hx=>first
|((with_reducible apply af.wF);(case hx|hy=>exact rfl))
|(exact ai v)
|exact ae))
|fail)
      all_goals exact⟨q+1,rfl,rfl,⟨by omega,h2⟩,by omega⟩
   ·
    exfalso;rw[CE h3]at h2;cases h2
end Go.Proofs.YtcgdbhlnkificaaGreatDoor
