/- The reference's layouts,as contracts. No condition. -/
import Derived.Test.YtgbfedgghjcdcaaGreatDoorMB
import Derived.Test.YtgbfedgghjcdcaaGreatDoorMD
set_option linter.all false
namespace Go.Proofs.YtgbfedgghjcdcaaGreatDoor
open Go.RowKit
set_option maxRecDepth 100000
set_option maxHeartbeats 16000000
def zN{S:List Int}(hl:S.length<=140737488351232):Cl ap 139 [.t (aF S)] [] (.t (.bool (c6 S))) []:=by
 refine Cl.aE rfl Tryz.func139 rfl rfl rfl ?_
 repeat'(first
|(with_reducible first|apply aa.seq|apply aa.block)
|((with_reducible apply aa.text);(try case hm=>exact rfl))
|(with_reducible apply ab.af)
|((with_reducible apply ab.u0);(case hx=>exact ac))
|fail)
 apply aa.aM
 case ho=>exact rfl
 case hp=>exact rfl
 case hl=>exact rfl
 case hs=>exact slt
 refine aI.ind (fun q:Nat=>[(3,.t (.int .i64 (q:Int)))]) (fun q=>q<=S.length/\c6 S=c6 (S.drop q)) (fun q=>S.length - q) 0 rfl ⟨by omega,rfl⟩ (fun q u=>?_);obtain⟨h1,h2⟩:=u;rcases Nat.lt_or_ge q S.length with h3|h3
 ·
  obtain⟨n,v⟩:=av h3;have hc:=bB v;have y:c6 (S.drop q)=((decide (1<=n)&&decide (n<=6))&&c6 (S.drop (q+1))):=ib _ v;rw[h2,y]
  repeat'(first
|(with_reducible first|apply aa.seq|apply aa.block)
|((with_reducible apply aa.text);(try case hm=>exact rfl))
|(with_reducible first|apply aa.skip|apply aa.ret|apply ai|apply ay|apply aG|apply aO)
|((with_reducible apply aa.am);(case hc=>exact rfl))
|((with_reducible apply aa.ak);(case hc=>exact rfl))
|((with_reducible apply ab.ao);(case hp=>exact ae))
|((with_reducible apply ab.aU)<;>intro u)
|((with_reducible apply ab.a_)<;>intro u)
|(with_reducible apply ab.af)
|((with_reducible apply ab.gf);(case hW=>exact rfl))
|((with_reducible apply ab.au);(case hW=>exact rfl);(case hx=>exact ac))
|((with_reducible apply ab.u0);(case hx=>exact ac))
|fail)
  all_goals first
   |exact aS (.inr rfl) rfl (by rw[decide_eq_false (show¬1<=n by omega)];rfl)
   |exact aS (.inr rfl) rfl (by rw[decide_eq_false (show¬n<=6 by omega)];simp)
   |exact⟨q+1,rfl,rfl,⟨by omega,by rw[decide_eq_true (show 1<=n by omega),decide_eq_true (show n<=6 by omega)];rfl⟩,by omega⟩
 ·
  have z:c6 (S.drop q)=true:=gv _ h3;rw[h2,z]
  repeat'(first
|(with_reducible apply aa.seq)
|((with_reducible apply aa.text);(try case hm=>exact rfl))
|(with_reducible first|apply aa.exit|apply aa.ret|apply ai|apply aA|apply az)
|((with_reducible apply aa.ak);(case hc=>exact rfl))
|((with_reducible apply ab.aw);(case hp=>exact ae))
|(with_reducible apply ab.af)
|((with_reducible apply ab.u0);(case hx=>exact ac))
|fail)
  exact⟨.inr rfl,rfl⟩
def rM(k:Int):Cl ap 142 [.t (.int .i64 k)] [] (.t (.bool (bz k))) []:=by
 refine Cl.aE rfl Tryz.func142 rfl rfl rfl ?_
 repeat'(first
|(with_reducible apply aa.seq)
|((with_reducible apply aa.text);(try case hm=>exact rfl))
|(with_reducible apply aa.ret)
|((with_reducible apply ab.aU)<;>intro u)
|((with_reducible apply ab.a_)<;>intro u)
|(with_reducible apply ab.af)
|((with_reducible apply ab.gf);(case hW=>exact rfl))
|((with_reducible apply ab.au);(case hW=>exact rfl);(case hx=>exact ac))
|((with_reducible apply ab.u0);(case hx=>exact ac))
|fail)
 all_goals(refine aS (.inr rfl) rfl ?_;unfold bz;first|(simp_all;done)|(simp_all;omega))
def rI{S C:List Int}(Q:S.length<=140737488351232)(hC:C.length<=140737488351232):Cl ap 140 [.t (aF S),.t (aF C)] [] (.t (.int .i64 (bp S C))) []:=by
 refine Cl.aE rfl Tryz.func140 rfl rfl rfl ?_;have G:=zN Q;have U:=bC S;by_cases h3:C.length<=3
 ·
  cases hs:c6 S with
  |false=>
   rw[hs]at G;have z:bp S C=0:=by unfold bp;rw[if_neg (by simp[hs])]
   rw[z]
   repeat'(first
|(with_reducible apply aa.seq)
|((with_reducible apply aa.text);(try case hm=>exact rfl))
|(with_reducible first|apply aa.ret|apply ay)
|((with_reducible apply aa.am);(case hc=>exact rfl))
|((with_reducible apply ab.aw);(case hp=>exact ae))
|(with_reducible apply ab.af)
|((with_reducible apply ab.au);(case hW=>exact rfl);(case hx=>first
|(exact aj G)
|exact ac))
|((with_reducible apply ab.u0);(case hx=>exact ac))
|fail)
   exact⟨.inr rfl,rfl⟩
  |true=>
   rw[hs]at G;have z:bp S C=if C.all (c_ S)=true then fG S C else 0:=by unfold bp;simp[hs,h3]
   rw[z]
   repeat'(first
|(with_reducible first|apply aa.seq|apply aa.block)
|((with_reducible apply aa.text);(try case hm=>exact rfl))
|(with_reducible first|apply aa.skip|apply ai)
|((with_reducible apply aa.ak);(case hc=>exact rfl))
|((with_reducible apply ab.aw);(case hp=>exact ae))
|(with_reducible apply ab.af)
|((with_reducible apply ab.au);(case hW=>exact rfl);(case hx=>first
|(exact aj G)
|exact ac))
|((with_reducible apply ab.u0);(case hx=>exact ac))
|fail)
   apply aa.aM
   case ho=>exact rfl
   case hp=>exact rfl
   case hl=>exact rfl
   case hs=>exact slt
   refine aI.ind (fun q:Nat=>[(5,.t (.int .i64 (fG S (C.take q)))),(6,.t (.int .i64 (q:Int)))]) (fun q=>q<=C.length/\(C.take q).all (c_ S)=true) (fun q=>C.length - q) 0 rfl ⟨by omega,by simp⟩ (fun q V=>?_);obtain⟨h1,h2⟩:=V;rcases Nat.lt_or_ge q C.length with h4|h4
   ·
    obtain⟨c,v⟩:=av h4;have hc:=bB v
    cases ho:c_ S c with
    |true=>
     have I:=rE hs (mK h2 v ho) (by simp;omega);have y:=uY (S:=S) v;rw[y]at I;have u:=ho;simp only[c_,Bool.and_eq_true,decide_eq_true_eq]at u;obtain⟨Z,O⟩:=u;obtain⟨s,D⟩:=av (xs:=S) (k:=c.toNat) (by omega);have hg:=bB D;rw[dt D]at I y;obtain⟨p,hp⟩:∃p,fG S (C.take q)=p:=⟨_,rfl⟩;rw[hp]at I y⊢
     repeat'(first
|(with_reducible first|apply aa.seq|apply aa.block)
|((with_reducible apply aa.text);(try case hm=>exact rfl))
|(with_reducible first|apply aa.skip|apply ai)
|((with_reducible apply aa.am);(case hc=>exact rfl))
|((with_reducible apply aa.ak);(case hc=>exact rfl))
|((with_reducible apply ab.ao);(case hp=>exact ae))
|((with_reducible apply ab.aw);(case hp=>exact ae))
|((with_reducible apply ab.aV);(case hp=>exact ae))
|(with_reducible first|apply ab.af|apply ab.bM)
|((with_reducible apply ab.au);(case hW=>exact rfl);(case hx=>exact ac))
|((with_reducible apply ab.u0);(case hx=>first
|((with_reducible apply ah.mul);(case hx|hy=>exact rfl);(case h=>omega))
|exact ac))
|fail)
     refine⟨q+1,?_,rfl,⟨by omega,mK h2 v ho⟩,by omega⟩;rw[y];rfl
    |false=>
     have J:¬C.all (c_ S)=true:=fun h=>by
      have:=List.all_eq_true.1 h c (List.mem_of_getElem? v);rw[ho]at this;cases this
     rw[if_neg J]
     have u:c <0\/(S.length:Int)<=c:=by
      by_cases h:0<=c
      ·right
       simp only[c_,decide_eq_true h,Bool.true_and,decide_eq_false_iff_not]at ho;omega
      ·exact .inl (by omega)
     rcases u with u|u
     ·
      repeat'(first
|(with_reducible first|apply aa.seq|apply aa.block)
|((with_reducible apply aa.text);(try case hm=>exact rfl))
|(with_reducible first|apply aa.skip|apply aa.ret|apply ai|apply ay|apply aO)
|((with_reducible apply aa.am);(case hc=>exact rfl))
|((with_reducible apply ab.ao);(case hp=>exact ae))
|(with_reducible apply ab.af)
|((with_reducible apply ab.gf);(case hW=>exact rfl))
|((with_reducible apply ab.u0);(case hx=>exact ac))
|fail)
      exact⟨.inr rfl,rfl⟩
     ·
      repeat'(first
|(with_reducible first|apply aa.seq|apply aa.block)
|((with_reducible apply aa.text);(try case hm=>exact rfl))
|(with_reducible first|apply aa.skip|apply aa.ret|apply ai|apply ay|apply aO)
|((with_reducible apply aa.am);(case hc=>exact rfl))
|((with_reducible apply ab.ao);(case hp=>exact ae))
|((with_reducible apply ab.aw);(case hp=>exact ae))
|((with_reducible apply ab.bh);(case hp=>exact ae))
|(with_reducible apply ab.af)
|((with_reducible apply ab.au);(case hW=>exact rfl);(case hx=>exact ac))
|((with_reducible apply ab.u0);(case hx=>exact ac))
|fail)
      all_goals exact⟨.inr rfl,rfl⟩
   ·
    have O:=oG h2 h4;rw[if_pos O,List.take_of_length_le h4]
    repeat'(first
|(with_reducible apply aa.seq)
|((with_reducible apply aa.text);(try case hm=>exact rfl))
|(with_reducible first|apply aa.exit|apply aa.ret|apply ai|apply aA|apply az)
|((with_reducible apply aa.ak);(case hc=>exact rfl))
|((with_reducible apply ab.aw);(case hp=>exact ae))
|(with_reducible apply ab.af)
|((with_reducible apply ab.u0);(case hx=>exact ac))
|fail)
    exact⟨.inr rfl,rfl⟩
 ·
  have z:bp S C=0:=by unfold bp;rw[if_neg (by simp[h3])]
  rw[z]
  repeat'(first
|(with_reducible apply aa.seq)
|((with_reducible apply aa.text);(try case hm=>exact rfl))
|(with_reducible first|apply aa.ret|apply ay)
|((with_reducible apply aa.am);(case hc=>exact rfl))
|((with_reducible apply ab.ao);(case hp=>exact ae))
|(with_reducible apply ab.af)
|((with_reducible apply ab.gf);(case hW=>exact rfl))
|((with_reducible apply ab.u0);(case hx=>exact ac))
|fail)
  exact⟨.inr rfl,rfl⟩
def EN{S:List Int}{L:List Tb}(h:¬((S.length<=4/\c6 S=true)/\L.length<=12)):ce S L=false:=by
 rw[<- Bool.not_eq_true];intro u;apply h;simp only[ce,Bool.and_eq_true,decide_eq_true_eq]at u;exact⟨⟨u.1.1,u.1.2.1⟩,u.1.2.2⟩
def iv(S:List Int)(L:List Tb)(q:Nat):Bool:=bE (gU S L) q (L.drop q)&&(decide (bQ S true L<=128)&&decide (bQ S false L<=64))
def EO{S:List Int}{L:List Tb}(h:(S.length<=4/\c6 S=true)/\L.length<=12):ce S L=iv S L 0:=by
 unfold ce iv allI;simp[h.1.1,h.1.2,h.2]
def xV{S:List Int}{L:List Tb}{q:Nat}{t:Tb}(h:L[q]?=some t):iv S L q=(gU S L q t&&iv S L (q+1)):=by
 unfold iv;rw[oF h,Bool.and_assoc]
def EP{S:List Int}{L:List Tb}{q:Nat}{t:Tb}(h:L[q]?=some t)(hb:¬gU S L q t=true):iv S L q=false:=by
 rw[xV h,Bool.not_eq_true _ |>.mp hb];rfl
def EQ{S:List Int}{L:List Tb}{q:Nat}{t:Tb}(h:L[q]?=some t)(hb:gU S L q t=true):iv S L q=iv S L (q+1):=by
 rw[xV h,hb];rfl
def Ax{S:List Int}{L:List Tb}{q:Nat}{t:Tb}:gU S L q t=true↔((L.take q).any fun u=>decide (u.name=t.name))=false/\jH t.name=true/\(0<=t.kind/\t.kind<=5)/\bp S t.aB≠0/\((t.lo<=t.hi/\ -9999<=t.lo/\t.hi<=9999)/\(¬(t.kind=0\/t.kind=2\/t.kind=3)\/(t.lo=0/\t.hi=1)))/\t.first=bQ S (bz t.kind) (L.take q):=by
 unfold gU vl;simp only[Bool.and_eq_true,Bool.or_eq_true,Bool.not_eq_true',decide_eq_true_eq,decide_eq_false_iff_not,Bool.or_eq_false_iff,not_or,ne_eq]
def vj{S:List Int}{L:List Tb}(hS:S.length<=140737488351232)(hL:L.length<=140737488351232)(hC:∀t∈L,t.aB.length<=140737488351232):Cl ap 97 [.t (aF S),.t (.arr (cR L))] [] (.t (.bool (ce S L))) []:=by
 refine Cl.aE rfl Tryz.func97 rfl rfl rfl ?_;have U:=zN hS;have aQ:=bC S;have aN:=gV L;by_cases h0:(S.length<=4/\c6 S=true)/\L.length<=12
 ·
  rw[EO h0];obtain⟨⟨h4,hs⟩,aJ⟩:=h0;rw[hs]at U
  repeat'(first
|(with_reducible first|apply aa.seq|apply aa.block)
|((with_reducible apply aa.text);(try case hm=>exact rfl))
|(with_reducible first|apply aa.skip|apply ai)
|((with_reducible apply aa.ak);(case hc=>exact rfl))
|((with_reducible apply ab.aw);(case hp=>exact ae))
|((with_reducible apply ab.aV);(case hp=>exact ae))
|(with_reducible apply ab.af)
|((with_reducible apply ab.au);(case hW=>exact rfl);(case hx=>first
|(exact aj U)
|exact ac))
|((with_reducible apply ab.u0);(case hx=>exact ac))
|fail)
  apply aa.aM
  case ho=>exact rfl
  case hp=>exact rfl
  case hl=>exact rfl
  case hs=>exact slt
  refine aI.ind (fun q:Nat=>[(5,.t (.int .i64 (bQ S true (L.take q)))),(6,.t (.int .i64 (bQ S false (L.take q)))),(7,.t (.int .i64 (q:Int)))]) (fun q=>q<=L.length/\iv S L 0=iv S L q) (fun q=>L.length - q) 0 rfl ⟨by omega,rfl⟩ (fun q D=>?_);obtain⟨h1,h2⟩:=D;rw[h2];rcases Nat.lt_or_ge q L.length with h3|h3
  ·
   obtain⟨t,Q⟩:=av h3;have hc:=fZ Q;have kn:=zv t.name;have kN:=rI (S:=S) (C:=t.aB) hS (hC t (List.mem_of_getElem? Q));have O:=rM t.kind;have v:=EP (S:=S) Q;have z:=EQ (S:=S) Q;rw[Ax]at v z;have I:=tA (S:=S) true Q;have G:=tA (S:=S) false Q;have Z:=lO (S:=S) true (L.take q);have V:=lO (S:=S) false (L.take q);have ad:=jI S t.aB;have ag:(L.take q).length=q:=by simp;omega
   rw[ag]at Z V;obtain⟨a,ha⟩:∃a,bQ S true (L.take q)=a:=⟨_,rfl⟩;obtain⟨b,hb⟩:∃b,bQ S false (L.take q)=b:=⟨_,rfl⟩;obtain⟨N,hN⟩:∃N,bp S t.aB=N:=⟨_,rfl⟩;rw[ha]at I Z⊢;rw[hb]at G V⊢;rw[hN]at I G ad kN v z
   repeat'(first
|(with_reducible first|apply aa.seq|apply aa.block)
|((with_reducible apply aa.text);(try case hm=>exact rfl))
|(with_reducible first|apply aa.skip|apply ai)
|((with_reducible apply aa.am);(case hc=>exact rfl))
|((with_reducible apply ab.ao);(case hp=>exact ae))
|(with_reducible apply ab.af)
|((with_reducible apply ab.u0);(case hx=>exact ac))
|fail)
   apply aa.aM
   case ho=>exact rfl
   case hp=>exact rfl
   case hl=>exact rfl
   case hs=>exact slt
   refine aI.ind (fun k:Nat=>[(9,.t (.int .i64 (k:Int)))]) (fun k=>k<=q/\((L.take q).any fun u=>decide (u.name=t.name))=(((L.take q).drop k).any fun u=>decide (u.name=t.name))) (fun k=>q - k) 0 rfl ⟨by omega,rfl⟩ (fun k hk=>?_);obtain⟨g1,g2⟩:=hk;rcases Nat.lt_or_ge k q with g3|g3
   ·
    obtain⟨u,hu⟩:=av (xs:=L) (k:=k) (by omega);have aL:=fZ hu;have an:(L.take q)[k]?=some u:=by rw[List.getElem?_take,if_pos g3,hu]
    have hh:=qf (fun u:Tb=>decide (u.name=t.name)) an;by_cases he:u.name=t.name
    ·
     rw[decide_eq_true he,Bool.true_or]at hh;rw[v (fun h=>by rw[g2,hh]at h;cases h.1)]
     repeat'(first
|(with_reducible first|apply aa.seq|apply aa.block)
|((with_reducible apply aa.text);(try case hm=>exact rfl))
|((with_reducible apply aa.drawn);(case hm=>exact rfl))
|(with_reducible first|apply aa.skip|apply aa.ret|apply ai|apply ay|apply aO)
|((with_reducible apply aa.am);(case hc=>exact rfl))
|((with_reducible apply ab.ao);(case hp=>exact ae))
|(with_reducible apply ab.af)
|((with_reducible apply ab.u0);(case hx=>exact ac))
|fail)
     exact⟨.inr rfl,rfl⟩
    ·
     rw[decide_eq_false he,Bool.false_or]at hh
     repeat'(first
|(with_reducible first|apply aa.seq|apply aa.block)
|((with_reducible apply aa.text);(try case hm=>exact rfl))
|((with_reducible apply aa.drawn);(case hm=>exact rfl))
|(with_reducible first|apply aa.skip|apply ai|apply aG)
|((with_reducible apply aa.am);(case hc=>exact rfl))
|((with_reducible apply aa.ak);(case hc=>exact rfl))
|((with_reducible apply ab.ao);(case hp=>exact ae))
|((with_reducible apply ab.aw);(case hp=>exact ae))
|(with_reducible apply ab.af)
|((with_reducible apply ab.u0);(case hx=>exact ac))
|fail)
     exact⟨k+1,rfl,rfl,⟨by omega,by rw[g2,hh]⟩,by omega⟩
   ·
    have J:((L.take q).any fun u=>decide (u.name=t.name))=false:=by rw[g2];exact qe _ (by omega)
    obtain⟨nb,al⟩:∃nb,jH t.name=nb:=⟨_,rfl⟩;rw[al]at kn v z
    cases nb with
    |false=>
     rw[v (fun h=>by cases h.2.1)]
     repeat'(first
|(with_reducible apply aa.seq)
|((with_reducible apply aa.text);(try case hm=>exact rfl))
|(with_reducible first|apply aa.exit|apply aa.ret|apply ai|apply aA|apply ay|apply aO|apply az)
|((with_reducible apply aa.am);(case hc=>exact rfl))
|((with_reducible apply aa.ak);(case hc=>exact rfl))
|((with_reducible apply ab.aw);(case hp=>exact ae))
|(with_reducible apply ab.af)
|((with_reducible apply ab.gf);(case hW=>exact rfl))
|((with_reducible apply ab.u0);(case hx=>first
|(exact aj kN)
|(exact aj kn)
|exact ac))
|fail)
     exact⟨.inr rfl,rfl⟩
    |true=>
     cases y:bz t.kind with
     |true=>
      rw[y,ha]at v z;rw[y]at O;rw[y,if_pos rfl]at I;rw[y,if_neg (by decide)]at G
      repeat'(first
|(with_reducible apply aa.seq)
|((with_reducible apply aa.text);(try case hm=>exact rfl))
|(with_reducible first|apply aa.skip|apply aa.exit|apply aa.ret|apply ai|apply aA|apply ay|apply aO|apply az)
|((with_reducible apply aa.am);(case hc=>exact rfl))
|((with_reducible apply aa.ak);(case hc=>exact rfl))
|((with_reducible apply ab.aw);(case hp=>exact ae))
|((with_reducible apply ab.aU)<;>intro D)
|((with_reducible apply ab.fV)<;>intro D)
|((with_reducible apply ab.a_)<;>intro D)
|((with_reducible apply ab.ed)<;>intro D)
|(with_reducible first|apply ab.af|apply ab.bM)
|((with_reducible apply ab.gf);(case hW=>exact rfl))
|((with_reducible apply ab.au);(case hW=>exact rfl);(case hx=>exact ac))
|((with_reducible apply ab.u0);(case hx=>first
|(exact aj kN)
|(exact aj kn)
|(exact aj O)
|exact ac))
|fail)
      all_goals first
       |exact aS (.inr rfl) rfl (Eq.symm (v (fun h=>by obtain⟨_,_,_,_,_,_⟩:=h;omega)))
       |(refine⟨q+1,?_,rfl,⟨by omega,z ⟨J,rfl,by omega,by omega,by omega,by omega⟩⟩,by omega⟩;rw[I,G];rfl)
     |false=>
      rw[y,hb]at v z;rw[y]at O;rw[y,if_neg (by decide)]at I;rw[y,if_pos rfl]at G
      repeat'(first
|(with_reducible apply aa.seq)
|((with_reducible apply aa.text);(try case hm=>exact rfl))
|(with_reducible first|apply aa.skip|apply aa.exit|apply aa.ret|apply ai|apply aA|apply ay|apply aO|apply az)
|((with_reducible apply aa.am);(case hc=>exact rfl))
|((with_reducible apply aa.ak);(case hc=>exact rfl))
|((with_reducible apply ab.aw);(case hp=>exact ae))
|((with_reducible apply ab.aU)<;>intro D)
|((with_reducible apply ab.fV)<;>intro D)
|((with_reducible apply ab.a_)<;>intro D)
|((with_reducible apply ab.ed)<;>intro D)
|(with_reducible first|apply ab.af|apply ab.bM)
|((with_reducible apply ab.gf);(case hW=>exact rfl))
|((with_reducible apply ab.au);(case hW=>exact rfl);(case hx=>exact ac))
|((with_reducible apply ab.u0);(case hx=>first
|(exact aj kN)
|(exact aj kn)
|(exact aj O)
|exact ac))
|fail)
      all_goals first
       |exact aS (.inr rfl) rfl (Eq.symm (v (fun h=>by obtain⟨_,_,_,_,_,_⟩:=h;omega)))
       |(refine⟨q+1,?_,rfl,⟨by omega,z ⟨J,rfl,by omega,by omega,by omega,by omega⟩⟩,by omega⟩;rw[I,G];rfl)
  ·
   have he:iv S L q=(decide (bQ S true L<=128)&&decide (bQ S false L<=64)):=by
    unfold iv;rw[jV h3];rfl
   rw[he,List.take_of_length_le h3]
   repeat'(first
|(with_reducible apply aa.seq)
|((with_reducible apply aa.text);(try case hm=>exact rfl))
|(with_reducible first|apply aa.exit|apply aa.ret|apply ai|apply aA|apply az)
|((with_reducible apply aa.ak);(case hc=>exact rfl))
|((with_reducible apply ab.aw);(case hp=>exact ae))
|((with_reducible apply ab.aU)<;>intro D)
|((with_reducible apply ab.a_)<;>intro D)
|(with_reducible apply ab.af)
|((with_reducible apply ab.gf);(case hW=>exact rfl))
|((with_reducible apply ab.au);(case hW=>exact rfl);(case hx=>exact ac))
|((with_reducible apply ab.u0);(case hx=>exact ac))
|fail)
   all_goals(refine aS (.inr rfl) rfl ?_;simp;omega)
 ·
  rw[EN h0]
  cases hs:c6 S with
  |true=>
   rw[hs]at U;have aq:¬(S.length<=4/\L.length<=12):=fun h=>h0 ⟨⟨h.1,hs⟩,h.2⟩
   repeat'(first
|(with_reducible apply aa.seq)
|((with_reducible apply aa.text);(try case hm=>exact rfl))
|(with_reducible first|apply aa.ret|apply ay)
|((with_reducible apply aa.am);(case hc=>exact rfl))
|((with_reducible apply ab.aU)<;>intro D)
|((with_reducible apply ab.bh);(case hp=>exact ae))
|(with_reducible apply ab.af)
|((with_reducible apply ab.gf);(case hW=>exact rfl))
|((with_reducible apply ab.au);(case hW=>exact rfl);(case hx=>first
|(exact aj U)
|exact ac))
|((with_reducible apply ab.u0);(case hx=>exact ac))
|fail)
   all_goals first
    |exact⟨.inr rfl,rfl⟩
    |(exfalso;omega)
  |false=>
   rw[hs]at U
   repeat'(first
|(with_reducible apply aa.seq)
|((with_reducible apply aa.text);(try case hm=>exact rfl))
|(with_reducible first|apply aa.ret|apply ay)
|((with_reducible apply aa.am);(case hc=>exact rfl))
|((with_reducible apply ab.aU)<;>intro D)
|(with_reducible apply ab.af)
|((with_reducible apply ab.gf);(case hW=>exact rfl))
|((with_reducible apply ab.au);(case hW=>exact rfl);(case hx=>first
|(exact aj U)
|exact ac))
|((with_reducible apply ab.u0);(case hx=>exact ac))
|fail)
   all_goals exact⟨.inr rfl,rfl⟩
end Go.Proofs.YtgbfedgghjcdcaaGreatDoor
