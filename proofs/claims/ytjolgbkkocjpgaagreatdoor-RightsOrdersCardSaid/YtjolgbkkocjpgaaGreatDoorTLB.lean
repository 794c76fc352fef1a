/- Layouts as the code judges them,as contracts. No condition. -/
import Derived.Test.YtjolgbkkocjpgaaGreatDoorTM
import Derived.Test.YtjolgbkkocjpgaaGreatDoorTNC
import Derived.Test.YtjolgbkkocjpgaaGreatDoorTP
set_option linter.defProp false
set_option linter.unusedSimpArgs false
set_option linter.unusedVariables false
set_option linter.unusedSectionVars false
namespace Go.Proofs.YtjolgbkkocjpgaaGreatDoor
open Go.RowKit
set_option maxRecDepth 100000
set_option maxHeartbeats 16000000
def EV(s:ByteArray):Cl ai 135 [.t (.str s)] [] (.t (.bool (fR s))) []:=by
 rw[<- DI s];generalize s.data.toList=l;have y:(bs l).size=l.length:=eJ l;have v:fR (bs l)=nL l:=by unfold fR;simp[bs]
 rw[v];rcases Nat.lt_or_ge 1000000 l.length with h|h
 ·
  have u:nL l=false:=by
   unfold nL;rw[decide_eq_false (show¬l.length<=16 by omega)]
   first|rfl|exact Bool.and_false _
  rw[u];refine Cl.ao rfl Tryz.func135 rfl rfl rfl ?_;exact af
 ·exact Ly h
def ma(L:List Tb)(q:Nat):List ByteArray:=(L.take q).map (·.name)
def EW{L:List Tb}{q:Nat}{s:ByteArray}:((ma L q).any fun u=>decide (u=s))=(L.take q).any fun u=>decide (u.name=s):=by unfold ma;rw[List.any_map];rfl
def NQ{L:List Tb}{q:Nat}(h:q<=L.length):(ma L q).length=q:=by unfold ma;simp;omega
def NR{L:List Tb}{q:Nat}{t:Tb}(h:L[q]?=some t):j0 (ma L q)++[.str t.name]=j0 (ma L (q+1)):=by unfold ma j0;rw[List.take_add_one,h];simp
def zx(S:List Int)(L:List Tb)(q:Nat):Fr:=[.map false (j0 (ma L q)) (dP q),.box false 3 [.t (.int .i64 (bn S true (L.take q)))],.box false 3 [.t (.int .i64 (bn S false (L.take q)))]]
def zy{S:List Int}{L:List Tb}(hS:S.length<=140737488351232)(hL:L.length<=140737488351232)(hC:∀t∈L,t.au.length<=140737488351232):Cl ai 92 [.t (ax S),.t (.arr (br L))] [] (.t (.bool (bH S L))) []:=by
 rw[<- u4];have bl:=aQ S;have bg:=e9 L;have kS:=L5 (S:=S) (by omega);obtain⟨b1,U⟩:∃b,decide ((S.length:Int)<=4)=b:=⟨_,rfl⟩;obtain⟨b2,V⟩:∃b,decide ((L.length:Int)<=12)=b:=⟨_,rfl⟩;obtain⟨b3,an⟩:∃b,ce S=b:=⟨_,rfl⟩;have k3:=L6 b1 b2 b3;rw[<- U,<- V]at k3;have e1:decide (S.length<=4)=b1:=by rw[<- U];simp;omega
 have e2:decide (L.length<=12)=b2:=by rw[<- V];simp;omega
 obtain⟨T,hT⟩:∃T,(aY (lg S L) 0 (L.drop 0)&&(decide (bn S true L<=128)&&decide (bn S false L<=64)))=T:=⟨_,rfl⟩;have e0:sx S L=((b1&&(b2&&b3))&&T):=by rw[<- hT];unfold sx;rw[e1,e2,an];rfl
 rw[e0];rw[an]at kS;refine Cl.ao rfl Tryz.func92 rfl rfl rfl ?_
 cases hb:(b1&&(b2&&b3))with
 |false=>
  have k3:Cl ai 133 [.t (.arr [[.bool (decide ((S.length:Int)<=4))],[.bool (decide ((L.length:Int)<=12))],[.bool b3]])] [] (.t (.bool false)) []:=by rw[<- hb,<- U,<- V];exact k3
  repeat'(first
|(with_reducible apply ac.seq)
|((with_reducible apply ac.text);(try case hm=>exact rfl))
|(with_reducible first|apply ac.ret|apply aV)
|((with_reducible apply ac.aA);(case hc=>exact rfl))
|(with_reducible apply aa.ap)
|((with_reducible apply aa.u0);(case hx=>first
|((with_reducible apply ae.mv);(conv=>lhs;whnf);try exact rfl)
|((with_reducible apply ae.asg);(conv=>lhs;whnf);try exact rfl)
|((with_reducible apply ae.jQ (es:=[[.bool (decide ((S.length:Int)<=4))],[.bool (decide ((L.length:Int)<=12))],[.bool b3]]));(case hw=>exact rfl);(case ho=>kernel_rfl);(case h=>kernel_rfl))
|(exact aq kS)
|(exact aq k3)
|((with_reducible apply ae.len);(case ha|hy|ht|hs=>exact rfl);(case hn=>first|exact List.length_map _|exact rfl))
|exact ae.r fun _=>rfl))
|fail)
  exact⟨.inr rfl,rfl⟩
 |true=>
  have k3:Cl ai 133 [.t (.arr [[.bool (decide ((S.length:Int)<=4))],[.bool (decide ((L.length:Int)<=12))],[.bool b3]])] [] (.t (.bool true)) []:=by rw[<- hb,<- U,<- V];exact k3
  rw[Bool.and_eq_true,Bool.and_eq_true]at hb;obtain⟨bb,bc,bd⟩:=hb;have Z:ce S=true:=by rw[an,bd]
  have bf:L.length<=12:=by rw[bc]at e2;simpa using e2
  have h4:S.length<=4:=by rw[bb]at e1;simpa using e1
  rw[Bool.true_and,<- hT]
  repeat'(first
|(with_reducible first|apply ac.seq|apply ac.block)
|((with_reducible apply ac.text);(try case hm=>exact rfl))
|(with_reducible first|apply ac.skip|apply az)
|((with_reducible apply ac.aH);(case hc=>exact rfl))
|(with_reducible apply aa.ap)
|((with_reducible apply aa.u0);(case hx=>first
|((with_reducible apply ae.mv);(conv=>lhs;whnf);try exact rfl)
|((with_reducible apply ae.asg);(conv=>lhs;whnf);try exact rfl)
|((with_reducible apply ae.jQ (es:=[[.bool (decide ((S.length:Int)<=4))],[.bool (decide ((L.length:Int)<=12))],[.bool b3]]));(case hw=>exact rfl);(case ho=>kernel_rfl);(case h=>kernel_rfl))
|(exact aq kS)
|(exact aq k3)
|((with_reducible apply ae.len);(case ha|hy|ht|hs=>exact rfl);(case hn=>first|exact List.length_map _|exact rfl))
|((with_reducible apply ae.al);(case hs=>exact fun _=>rfl);(case hz=>exact rfl);(case hc=>exact leq);(case hn=>exact Ch);(case hf=>exact leq))
|((with_reducible apply ae.B6);(case hs=>exact fun _=>rfl);(case ha|hy=>exact rfl);(case ht=>first|(with_reducible exact sz0)|(with_reducible exact ei)|(with_reducible exact pm)|(with_reducible exact sz3)|(with_reducible exact sz4)|(with_reducible exact sz5)|(with_reducible exact sz6)|(with_reducible exact sz7)|(with_reducible exact sz8)|(with_reducible exact sz9)|exact rfl);(case hv=>exact rfl);(case ho=>kernel_rfl);(case hb=>exact rfl);(case hc=>kernel_rfl);(case hd=>exact leq);(case hf=>exact leq))
|exact ae.r fun _=>rfl))
|fail)
  apply ac.kQ
  case ho=>exact rfl
  case hp=>exact rfl
  case hl=>exact rfl
  case hs=>exact slt
  refine aC.cB (fun q:Nat=>[(25,.t (.int .i64 (q:Int)))]) (fun q=>zx S L q) (fun q=>q<=L.length/\aY (lg S L) 0 (L.drop 0)=aY (lg S L) q (L.drop q)) (fun q=>L.length - q) 0 rfl rfl ⟨by omega,rfl⟩ (fun q hq=>?_);obtain⟨h1,h2⟩:=hq;rw[h2];rcases Nat.lt_or_ge q L.length with h3|h3
  ·
   obtain⟨t,ht⟩:=am h3;have hc:=eK ht;have kn:=EV t.name;have kw:=DX t.kind 0 5;have kc:=Mc (S:=S) (C:=t.au) (by omega) (hC t (List.mem_of_getElem? ht));have kr:=L9 t;have ks:=vE t;obtain⟨J,aD⟩:∃b,fR t.name=b:=⟨_,rfl⟩;obtain⟨a3,aI⟩:∃b,(decide (0<=t.kind)&&decide (t.kind<=5))=b:=⟨_,rfl⟩;obtain⟨a4,ak⟩:∃b,iw S t.au=b:=⟨_,rfl⟩;obtain⟨a5,aL⟩:∃b,qD t=b:=⟨_,rfl⟩;have a6:lg S L q t=((J&&(!((L.take q).any fun u=>decide (u.name=t.name))&&(a3&&(a4&&a5))))&&decide (t.first=bn S (bp t.kind) (L.take q))):=by unfold lg;rw[aD,aI,ak,aL]
   have v:=gz (p:=lg S L) ht;have z:=gA (p:=lg S L) ht;rw[a6]at v z;rw[aD]at kn;rw[aI]at kw;rw[ak]at kc;rw[aL]at kr;have hks:=NR ht;have hvs:=vI q;unfold zx
   cases ha:(L.take q).any fun u=>decide (u.name=t.name)with
   |true=>
    obtain⟨j,hf,hj⟩:=zm (s:=t.name) (N:=ma L q) (by rw[EW];exact ha);have hz:=sM (n:=q) (j:=j) (by rw[NQ h1]at hj;omega);have I:=DY J false a3 a4 a5;rw[Bool.false_and,Bool.and_false]at I;rw[v (by rw[ha];simp)]
    repeat'(first
|(with_reducible first|apply ac.seq|apply ac.block)
|((with_reducible apply ac.text);(try case hm=>exact rfl))
|((with_reducible apply ac.drawn);(case hm=>exact rfl))
|(with_reducible first|apply ac.skip|apply ac.ret|apply az|apply aV|apply bq)
|((with_reducible apply ac.aA);(case hc=>exact rfl))
|((with_reducible apply aa.aE);(case hp=>exact aj))
|(with_reducible apply aa.ap)
|((with_reducible apply aa.u0);(case hx=>first
|((with_reducible apply ae.nG);(case hm|hk|ho=>exact rfl);(case hf=>exact hf);(case hz=>exact hz))
|((with_reducible apply ae.jQ (es:=[[.bool J],[.bool false],[.bool a3],[.bool a4],[.bool a5]]));(case hw=>exact rfl);(case ho=>kernel_rfl);(case h=>kernel_rfl))
|(exact aq kn)
|(exact aq kw)
|(exact aq kc)
|(exact aq kr)
|(exact aq I)
|exact ah))
|fail)
    exact⟨.inr rfl,rfl⟩
   |false=>
    have hf:=zl (s:=t.name) (N:=ma L q) (by rw[EW];exact ha);have I:=DY J true a3 a4 a5;rw[Bool.true_and]at I;rw[ha,Bool.not_false,Bool.true_and]at v z
    cases D:(J&&(a3&&(a4&&a5)))with
    |false=>
     rw[D]at I;rw[v (by rw[D];simp)]
     repeat'(first
|(with_reducible first|apply ac.seq|apply ac.block)
|((with_reducible apply ac.text);(try case hm=>exact rfl))
|((with_reducible apply ac.drawn);(case hm=>exact rfl))
|(with_reducible first|apply ac.skip|apply ac.ret|apply az|apply aV|apply bq)
|((with_reducible apply ac.aA);(case hc=>exact rfl))
|((with_reducible apply aa.aE);(case hp=>exact aj))
|(with_reducible apply aa.ap)
|((with_reducible apply aa.u0);(case hx=>first
|((with_reducible apply ae.lk);(case hm|hk|ho=>exact rfl);(case hf=>exact hf);(case hz=>exact rfl))
|((with_reducible apply ae.jQ (es:=[[.bool J],[.bool true],[.bool a3],[.bool a4],[.bool a5]]));(case hw=>exact rfl);(case ho=>kernel_rfl);(case h=>kernel_rfl))
|(exact aq kn)
|(exact aq kw)
|(exact aq kc)
|(exact aq kr)
|(exact aq I)
|exact ah))
|fail)
     exact⟨.inr rfl,rfl⟩
    |true=>
     rw[D]at I;rw[D,Bool.true_and,decide_eq_true_eq]at v z
     have aw:iw S t.au=true:=by
      rw[Bool.and_eq_true,Bool.and_eq_true,Bool.and_eq_true]at D;rw[ak,D.2.2.1]
     have y:=aw;unfold iw at y;rw[Bool.and_eq_true,decide_eq_true_eq]at y;have ay:=vF (S:=S) (by omega) Z y.2 y.1;have a_:=lZ Z y.2 y.1;have aS:=Dt (s:=true) Z aw ht;have aR:=Dt (s:=false) Z aw ht;have ag:=jT (S:=S) true (L.take q);have ad:=jT (S:=S) false (L.take q);have be:(L.take q).length=q:=by simp;omega
     rw[be]at ag ad;obtain⟨P,hP⟩:∃P,cU S t.au=P:=⟨_,rfl⟩;rw[hP]at ay a_
     cases ab:bp t.kind with
     |true=>
      rw[ab]at ks v z;obtain⟨x,hx⟩:∃x,bn S true (L.take q)=x:=⟨_,rfl⟩;rw[hx]at ag v z⊢;by_cases G:t.first=x
      ·
       repeat'(first
|(with_reducible first|apply ac.seq|apply ac.block)
|((with_reducible apply ac.text);(try case hm=>exact rfl))
|((with_reducible apply ac.drawn);(case hm=>exact rfl))
|(with_reducible first|apply ac.skip|apply az)
|((with_reducible apply ac.aA);(case hc=>exact rfl))
|((with_reducible apply ac.aH);(case hc=>exact rfl))
|((with_reducible apply aa.aE);(case hp=>exact aj))
|((with_reducible apply aa.dS);(case hp=>exact aj))
|(with_reducible first|apply aa.ap|apply aa.bj)
|((with_reducible apply aa.u0);(case hx=>first
|((with_reducible apply ae.lk);(case hm|hk|ho=>exact rfl);(case hf=>exact hf);(case hz=>exact rfl))
|((with_reducible apply ae.jQ (es:=[[.bool J],[.bool true],[.bool a3],[.bool a4],[.bool a5]]));(case hw=>exact rfl);(case ho=>kernel_rfl);(case h=>kernel_rfl))
|((with_reducible apply ae.px);(case hs=>exact fun _=>rfl);(case hm|ha|hk|hd|hy|hb=>exact rfl);(case hf=>exact hf);(case hks=>exact hks);(case hvs=>exact hvs);(case hfr=>exact leq))
|(exact aq kn)
|(exact aq kw)
|(exact aq kc)
|(exact aq kr)
|(exact aq ks)
|(exact aq I)
|(exact aq ay)
|exact ah))
|fail)
       exact⟨q+1,rfl,D3 (by rw[aS,aR,ab,hx,hP];rfl),⟨by omega,z G⟩,by omega⟩
      ·
       rw[v G]
       repeat'(first
|(with_reducible first|apply ac.seq|apply ac.block)
|((with_reducible apply ac.text);(try case hm=>exact rfl))
|((with_reducible apply ac.drawn);(case hm=>exact rfl))
|(with_reducible first|apply ac.skip|apply ac.ret|apply az|apply aV|apply bq)
|((with_reducible apply ac.aA);(case hc=>exact rfl))
|((with_reducible apply ac.aH);(case hc=>exact rfl))
|((with_reducible apply aa.aE);(case hp=>exact aj))
|((with_reducible apply aa.gN);(case hp=>exact aj))
|(with_reducible apply aa.ap)
|((with_reducible apply aa.u0);(case hx=>first
|((with_reducible apply ae.lk);(case hm|hk|ho=>exact rfl);(case hf=>exact hf);(case hz=>exact rfl))
|((with_reducible apply ae.jQ (es:=[[.bool J],[.bool true],[.bool a3],[.bool a4],[.bool a5]]));(case hw=>exact rfl);(case ho=>kernel_rfl);(case h=>kernel_rfl))
|((with_reducible apply ae.px);(case hs=>exact fun _=>rfl);(case hm|ha|hk|hd|hy|hb=>exact rfl);(case hf=>exact hf);(case hks=>exact hks);(case hvs=>exact hvs);(case hfr=>exact leq))
|(exact aq kn)
|(exact aq kw)
|(exact aq kc)
|(exact aq kr)
|(exact aq ks)
|(exact aq I)
|exact ah))
|fail)
       exact⟨.inr rfl,rfl⟩
     |false=>
      rw[ab]at ks v z;obtain⟨x,hx⟩:∃x,bn S false (L.take q)=x:=⟨_,rfl⟩;rw[hx]at ad v z⊢;by_cases G:t.first=x
      ·
       repeat'(first
|(with_reducible first|apply ac.seq|apply ac.block)
|((with_reducible apply ac.text);(try case hm=>exact rfl))
|((with_reducible apply ac.drawn);(case hm=>exact rfl))
|(with_reducible first|apply ac.skip|apply az)
|((with_reducible apply ac.aA);(case hc=>exact rfl))
|((with_reducible apply ac.aH);(case hc=>exact rfl))
|((with_reducible apply aa.aE);(case hp=>exact aj))
|((with_reducible apply aa.dS);(case hp=>exact aj))
|(with_reducible first|apply aa.ap|apply aa.bj)
|((with_reducible apply aa.u0);(case hx=>first
|((with_reducible apply ae.lk);(case hm|hk|ho=>exact rfl);(case hf=>exact hf);(case hz=>exact rfl))
|((with_reducible apply ae.jQ (es:=[[.bool J],[.bool true],[.bool a3],[.bool a4],[.bool a5]]));(case hw=>exact rfl);(case ho=>kernel_rfl);(case h=>kernel_rfl))
|((with_reducible apply ae.px);(case hs=>exact fun _=>rfl);(case hm|ha|hk|hd|hy|hb=>exact rfl);(case hf=>exact hf);(case hks=>exact hks);(case hvs=>exact hvs);(case hfr=>exact leq))
|(exact aq kn)
|(exact aq kw)
|(exact aq kc)
|(exact aq kr)
|(exact aq ks)
|(exact aq I)
|(exact aq ay)
|exact ah))
|fail)
       exact⟨q+1,rfl,D3 (by rw[aS,aR,ab,hx,hP];rfl),⟨by omega,z G⟩,by omega⟩
      ·
       rw[v G]
       repeat'(first
|(with_reducible first|apply ac.seq|apply ac.block)
|((with_reducible apply ac.text);(try case hm=>exact rfl))
|((with_reducible apply ac.drawn);(case hm=>exact rfl))
|(with_reducible first|apply ac.skip|apply ac.ret|apply az|apply aV|apply bq)
|((with_reducible apply ac.aA);(case hc=>exact rfl))
|((with_reducible apply ac.aH);(case hc=>exact rfl))
|((with_reducible apply aa.aE);(case hp=>exact aj))
|((with_reducible apply aa.gN);(case hp=>exact aj))
|(with_reducible apply aa.ap)
|((with_reducible apply aa.u0);(case hx=>first
|((with_reducible apply ae.lk);(case hm|hk|ho=>exact rfl);(case hf=>exact hf);(case hz=>exact rfl))
|((with_reducible apply ae.jQ (es:=[[.bool J],[.bool true],[.bool a3],[.bool a4],[.bool a5]]));(case hw=>exact rfl);(case ho=>kernel_rfl);(case h=>kernel_rfl))
|((with_reducible apply ae.px);(case hs=>exact fun _=>rfl);(case hm|ha|hk|hd|hy|hb=>exact rfl);(case hf=>exact hf);(case hks=>exact hks);(case hvs=>exact hvs);(case hfr=>exact leq))
|(exact aq kn)
|(exact aq kw)
|(exact aq kc)
|(exact aq kr)
|(exact aq ks)
|(exact aq I)
|exact ah))
|fail)
       exact⟨.inr rfl,rfl⟩
  ·
   rw[eT h3,Bool.true_and];unfold zx;rw[List.take_of_length_le h3];exact af
def NS{C:List Tb}{p:Tb->Bool}{c1 c2:AV}(hl:C.length<=140737488351232)(hp:∀x∈C,Cl ai 172 [.t (.agg (dV x)),.t c1,.t c2] [] (.t (.bool (p x))) []):Cl ai 190 [.t (.arr (br C)),.t (.fn (.func 172) 0 [c1,c2])] [] (.t (.int .i64 (a8 p C 0))) []:=by
 have z:=e9 C;refine Cl.ao rfl Tryz.func190 rfl rfl rfl ?_;refine ar ?_;refine aC.ind (fun q:Nat=>[(8,.t (.int .i64 (q:Int)))]) (fun q=>q<=C.length/\a8 p C 0=a8 p (C.drop q) q) (fun q=>C.length - q) 0 rfl (by simp) (fun q D=>?_);obtain⟨h1,h2⟩:=D;rw[h2];rcases Nat.lt_or_ge q C.length with h3|h3
 ·
  obtain⟨e,u⟩:=am h3;have G:=eK u;have v:=hp e (List.mem_of_getElem? u);rw[drop_at u,gV];obtain⟨b,y⟩:∃b,p e=b:=⟨_,rfl⟩;rw[y]at v⊢
  cases b with
  |true=>
   exact af
  |false=>
   exact af
 ·
  rw[List.drop_of_length_le h3];exact af
def NT{C:List Tb}{p:Tb->Bool}{c1 c2:AV}(hl:C.length<=140737488351232)(hp:∀x∈C,Cl ai 172 [.t (.agg (dV x)),.t c1,.t c2] [] (.t (.bool (p x))) []):Cl ai 171 [.t (.arr (br C)),.t (.fn (.func 172) 0 [c1,c2])] [] (.t (.bool (C.any p))) []:=by
 have u:=NS hl hp;rw[<- gy p C 0 (by omega)];refine Cl.ao rfl Tryz.func171 rfl rfl rfl ?_;obtain⟨n,v⟩:∃n,a8 p C 0=n:=⟨_,rfl⟩;rw[v]at u⊢;exact af
def NU{C:List Rw}{p:Rw->Bool}{c1:AV}(hl:C.length<=140737488351232)(hp:∀x∈C,Cl ai 177 [.t (.agg (e8 x)),.t c1] [] (.t (.bool (p x))) []):Cl ai 193 [.t (.arr (iz C)),.t (.fn (.func 177) 0 [c1])] [] (.t (.int .i64 (a8 p C 0))) []:=by
 have z:=vD C;refine Cl.ao rfl Tryz.func193 rfl rfl rfl ?_;refine ar ?_;refine aC.ind (fun q:Nat=>[(8,.t (.int .i64 (q:Int)))]) (fun q=>q<=C.length/\a8 p C 0=a8 p (C.drop q) q) (fun q=>C.length - q) 0 rfl (by simp) (fun q D=>?_);obtain⟨h1,h2⟩:=D;rw[h2];rcases Nat.lt_or_ge q C.length with h3|h3
 ·
  obtain⟨e,u⟩:=am h3;have G:=DU u;have v:=hp e (List.mem_of_getElem? u);rw[drop_at u,gV];obtain⟨b,y⟩:∃b,p e=b:=⟨_,rfl⟩;rw[y]at v⊢
  cases b with
  |true=>
   exact af
  |false=>
   exact af
 ·
  rw[List.drop_of_length_le h3];exact af
def NV{C:List Rw}{p:Rw->Bool}{c1:AV}(hl:C.length<=140737488351232)(hp:∀x∈C,Cl ai 177 [.t (.agg (e8 x)),.t c1] [] (.t (.bool (p x))) []):Cl ai 176 [.t (.arr (iz C)),.t (.fn (.func 177) 0 [c1])] [] (.t (.bool (C.any p))) []:=by
 have u:=NU hl hp;rw[<- gy p C 0 (by omega)];refine Cl.ao rfl Tryz.func176 rfl rfl rfl ?_;obtain⟨n,v⟩:∃n,a8 p C 0=n:=⟨_,rfl⟩;rw[v]at u⊢;exact af
def NW{C:List Int}{p:Int->Bool}{c1:AV}(hl:C.length<=140737488351232)(hp:∀x∈C,Cl ai 146 [.t (.int .i64 x),.t c1] [] (.t (.bool (p x))) []):Cl ai 32 [.t (ax C),.t (.fn (.func 146) 0 [c1])] [] (.t (.int .i64 (a8 p C 0))) []:=by
 have z:=aQ C;refine Cl.ao rfl Tryz.func32 rfl rfl rfl ?_;refine ar ?_;refine aC.ind (fun q:Nat=>[(8,.t (.int .i64 (q:Int)))]) (fun q=>q<=C.length/\a8 p C 0=a8 p (C.drop q) q) (fun q=>C.length - q) 0 rfl (by simp) (fun q D=>?_);obtain⟨h1,h2⟩:=D;rw[h2];rcases Nat.lt_or_ge q C.length with h3|h3
 ·
  obtain⟨e,u⟩:=am h3;have G:=aU u;have v:=hp e (List.mem_of_getElem? u);rw[drop_at u,gV];obtain⟨b,y⟩:∃b,p e=b:=⟨_,rfl⟩;rw[y]at v⊢
  cases b with
  |true=>
   exact af
  |false=>
   exact af
 ·
  rw[List.drop_of_length_le h3];exact af
def NX{C:List Int}{p:Int->Bool}{c1:AV}(hl:C.length<=140737488351232)(hp:∀x∈C,Cl ai 146 [.t (.int .i64 x),.t c1] [] (.t (.bool (p x))) []):Cl ai 11 [.t (ax C),.t (.fn (.func 146) 0 [c1])] [] (.t (.bool (C.any p))) []:=by
 have u:=NW hl hp;rw[<- gy p C 0 (by omega)];refine Cl.ao rfl Tryz.func11 rfl rfl rfl ?_;obtain⟨n,v⟩:∃n,a8 p C 0=n:=⟨_,rfl⟩;rw[v]at u⊢;exact af
def NY{C:List Mem}{p:Mem->Bool}{c1 c2:AV}(hl:C.length<=140737488351232)(hp:∀x∈C,Cl ai 103 [.t (.agg (gW x)),.t c1,.t c2] [] (.t (.bool (p x))) []):Cl ai 104 [.t (.arr (cK C)),.t (.fn (.func 103) 0 [c1,c2])] [] (.t (.int .i64 (a8 p C 0))) []:=by
 have z:=n8 C;refine Cl.ao rfl Tryz.func104 rfl rfl rfl ?_;refine ar ?_;refine aC.ind (fun q:Nat=>[(8,.t (.int .i64 (q:Int)))]) (fun q=>q<=C.length/\a8 p C 0=a8 p (C.drop q) q) (fun q=>C.length - q) 0 rfl (by simp) (fun q D=>?_);obtain⟨h1,h2⟩:=D;rw[h2];rcases Nat.lt_or_ge q C.length with h3|h3
 ·
  obtain⟨e,u⟩:=am h3;have G:=qP u;have v:=hp e (List.mem_of_getElem? u);rw[drop_at u,gV];obtain⟨b,y⟩:∃b,p e=b:=⟨_,rfl⟩;rw[y]at v⊢
  cases b with
  |true=>
   exact af
  |false=>
   exact af
 ·
  rw[List.drop_of_length_le h3];exact af
def EX{C:List Mem}{p:Mem->Bool}{c1 c2:AV}(hl:C.length<=140737488351232)(hp:∀x∈C,Cl ai 103 [.t (.agg (gW x)),.t c1,.t c2] [] (.t (.bool (p x))) []):Cl ai 67 [.t (.arr (cK C)),.t (.fn (.func 103) 0 [c1,c2])] [] (.t (.bool (C.any p))) []:=by
 have u:=NY hl hp;rw[<- gy p C 0 (by omega)];refine Cl.ao rfl Tryz.func67 rfl rfl rfl ?_;obtain⟨n,v⟩:∃n,a8 p C 0=n:=⟨_,rfl⟩;rw[v]at u⊢;exact af
def NZ{C:List Mem}{p:Mem->Bool}{c1:AV}(hl:C.length<=140737488351232)(hp:∀x∈C,Cl ai 155 [.t (.agg (gW x)),.t c1] [] (.t (.bool (p x))) []):Cl ai 104 [.t (.arr (cK C)),.t (.fn (.func 155) 0 [c1])] [] (.t (.int .i64 (a8 p C 0))) []:=by
 have z:=n8 C;refine Cl.ao rfl Tryz.func104 rfl rfl rfl ?_;refine ar ?_;refine aC.ind (fun q:Nat=>[(8,.t (.int .i64 (q:Int)))]) (fun q=>q<=C.length/\a8 p C 0=a8 p (C.drop q) q) (fun q=>C.length - q) 0 rfl (by simp) (fun q D=>?_);obtain⟨h1,h2⟩:=D;rw[h2];rcases Nat.lt_or_ge q C.length with h3|h3
 ·
  obtain⟨e,u⟩:=am h3;have G:=qP u;have v:=hp e (List.mem_of_getElem? u);rw[drop_at u,gV];obtain⟨b,y⟩:∃b,p e=b:=⟨_,rfl⟩;rw[y]at v⊢
  cases b with
  |true=>
   exact af
  |false=>
   exact af
 ·
  rw[List.drop_of_length_le h3];exact af
def N0{C:List Mem}{p:Mem->Bool}{c1:AV}(hl:C.length<=140737488351232)(hp:∀x∈C,Cl ai 155 [.t (.agg (gW x)),.t c1] [] (.t (.bool (p x))) []):Cl ai 67 [.t (.arr (cK C)),.t (.fn (.func 155) 0 [c1])] [] (.t (.bool (C.any p))) []:=by
 have u:=NZ hl hp;rw[<- gy p C 0 (by omega)];refine Cl.ao rfl Tryz.func67 rfl rfl rfl ?_;obtain⟨n,v⟩:∃n,a8 p C 0=n:=⟨_,rfl⟩;rw[v]at u⊢;exact af
def N1{C:List Int}{p:Int->Bool}{c1 c2 y:AV}(hl:C.length<=140737488351232)(hp:∀x∈C,Cl ai 66 [.t (.int .i64 x),.t c1,.t c2,.t y] [] (.t (.bool (p x))) []):Cl ai 32 [.t (ax C),.t (.fn (.func 66) 0 [c1,c2,y])] [] (.t (.int .i64 (a8 p C 0))) []:=by
 have D:=aQ C;refine Cl.ao rfl Tryz.func32 rfl rfl rfl ?_;refine ar ?_;refine aC.ind (fun q:Nat=>[(8,.t (.int .i64 (q:Int)))]) (fun q=>q<=C.length/\a8 p C 0=a8 p (C.drop q) q) (fun q=>C.length - q) 0 rfl (by simp) (fun q G=>?_);obtain⟨h1,h2⟩:=G;rw[h2];rcases Nat.lt_or_ge q C.length with h3|h3
 ·
  obtain⟨e,u⟩:=am h3;have I:=aU u;have v:=hp e (List.mem_of_getElem? u);rw[drop_at u,gV];obtain⟨b,z⟩:∃b,p e=b:=⟨_,rfl⟩;rw[z]at v⊢
  cases b with
  |true=>
   exact af
  |false=>
   exact af
 ·
  rw[List.drop_of_length_le h3];exact af
def N2{C:List Int}{p:Int->Bool}{c1 c2 u:AV}(hl:C.length<=140737488351232)(hp:∀x∈C,Cl ai 66 [.t (.int .i64 x),.t c1,.t c2,.t u] [] (.t (.bool (p x))) []):Cl ai 11 [.t (ax C),.t (.fn (.func 66) 0 [c1,c2,u])] [] (.t (.bool (C.any p))) []:=by
 have v:=N1 hl hp;rw[<- gy p C 0 (by omega)];refine Cl.ao rfl Tryz.func11 rfl rfl rfl ?_;obtain⟨n,y⟩:∃n,a8 p C 0=n:=⟨_,rfl⟩;rw[y]at v⊢;exact af
def N3{C:List Mem}{p:Mem->Bool}{c1 c2:AV}(hl:C.length<=140737488351232)(hp:∀x∈C,Cl ai 68 [.t (.agg (gW x)),.t c1,.t c2] [] (.t (.bool (p x))) []):Cl ai 104 [.t (.arr (cK C)),.t (.fn (.func 68) 0 [c1,c2])] [] (.t (.int .i64 (a8 p C 0))) []:=by
 have z:=n8 C;refine Cl.ao rfl Tryz.func104 rfl rfl rfl ?_;refine ar ?_;refine aC.ind (fun q:Nat=>[(8,.t (.int .i64 (q:Int)))]) (fun q=>q<=C.length/\a8 p C 0=a8 p (C.drop q) q) (fun q=>C.length - q) 0 rfl (by simp) (fun q D=>?_);obtain⟨h1,h2⟩:=D;rw[h2];rcases Nat.lt_or_ge q C.length with h3|h3
 ·
  obtain⟨e,u⟩:=am h3;have G:=qP u;have v:=hp e (List.mem_of_getElem? u);rw[drop_at u,gV];obtain⟨b,y⟩:∃b,p e=b:=⟨_,rfl⟩;rw[y]at v⊢
  cases b with
  |true=>
   exact af
  |false=>
   exact af
 ·
  rw[List.drop_of_length_le h3];exact af
def N4{C:List Mem}{p:Mem->Bool}{c1 c2:AV}(hl:C.length<=140737488351232)(hp:∀x∈C,Cl ai 68 [.t (.agg (gW x)),.t c1,.t c2] [] (.t (.bool (p x))) []):Cl ai 67 [.t (.arr (cK C)),.t (.fn (.func 68) 0 [c1,c2])] [] (.t (.bool (C.any p))) []:=by
 have u:=N3 hl hp;rw[<- gy p C 0 (by omega)];refine Cl.ao rfl Tryz.func67 rfl rfl rfl ?_;obtain⟨n,v⟩:∃n,a8 p C 0=n:=⟨_,rfl⟩;rw[v]at u⊢;exact af
def EY{f:Nat}{xs:List AV}{r:SV×Fr}(h0:qF f xs=none)(h:l7 f xs=some r):ai.ext f xs=some r:=by
 show(match qF f xs with|some r=>some r|none=>l7 f xs)=_
 rw[h0,h]
def mulL(x y:Int)(h:decide (0<=x/\x <18446744073709551616/\0<=y/\y <18446744073709551616)=true):l7 170 [.int .u64 x,.int .u64 y]=some (.aL [.t (.int .u64 ((x.toNat*y.toNat/18446744073709551616:Nat):Int)),.t (.int .u64 ((x.toNat*y.toNat %18446744073709551616:Nat):Int))],[]):=by
 unfold l7;simp only[Nat.beq_refl,h,Bool.and_self]
def EZ{n:Nat}(h:n<=216):((((1:Int).toNat*((n:Nat):Int).toNat/18446744073709551616:Nat):Int)=0)/\((((1:Int).toNat*((n:Nat):Int).toNat %18446744073709551616:Nat):Int)=n):=by
 have v:((n:Nat):Int).toNat=n:=Int.toNat_natCast n;have u:(1:Int).toNat=1:=rfl;rw[v,u,Nat.one_mul];exact⟨by rw[Nat.div_eq_of_lt (by omega)];rfl,by rw[Nat.mod_eq_of_lt (by omega)]⟩
def N5{n:Nat}(h:n<=216):decide ((0:Int)<=1/\(1:Int)<18446744073709551616/\0<=(n:Int)/\(n:Int)<18446744073709551616)=true:=decide_eq_true (by omega)
def N6{n:Nat}(h:n<=216):Cl ai 170 [.t (.int .u64 1),.t (.int .u64 (n:Int))] [] (.aL [.t (.int .u64 0),.t (.int .u64 (n:Int))]) []:=by
 have k:=mulL 1 (n:Int) (N5 h);rw[(EZ h).1,(EZ h).2]at k;exact Cl.ext (xs:=[.int .u64 1,.int .u64 (n:Int)]) rfl rfl (EY rfl k)
def N7(fr:Fr)(m n:Int):ik ai.P fr 74 (.t (.int .i64 m)) (.t (.int .i64 n))=match decide (0<=m)&&decide (m<=n)&&Nat.ble (n.toNat*16) 281474976710656&&Nat.ble n.toNat 140737488351232 with
  |true=>some (.ls fr.length,fr++[.row false false 2 (List.replicate m.toNat [.int .i64 0,.int .i64 0])],[])
  |false=>none:=by kernel_rfl
def N8{fr:Fr}{n:Nat}(h:n<=1000):ik ai.P fr 74 (.t (.int .i64 (n:Int))) (.t (.int .i64 (n:Int)))=some (.ls fr.length,fr++[.row false false 2 (List.replicate n [.int .i64 0,.int .i64 0])],[]):=by
 have e:(decide (0<=(n:Int))&&decide ((n:Int)<=n)&&Nat.ble ((n:Int).toNat*16) 281474976710656&&Nat.ble (n:Int).toNat 140737488351232)=true:=by
  rw[Int.toNat_natCast];have h1:Nat.ble (n*16) 281474976710656=true:=by rw[Nat.ble_eq];omega
  have h2:Nat.ble n 140737488351232=true:=by rw[Nat.ble_eq];omega
  rw[h1,h2];simp
 rw[N7,e];simp
def E0:dY ai.P 74=some (105,2,16):=by kernel_rfl
def N9{P:Program}{t T sz u r a n:Nat}{fr:Fr}{y:SV}{tch:Bool}{es zs:List (List AV)}(hr:dY P t=some (T,sz,u))(hb:fr[r]?=some (.row false tch sz es))(hy:h_ fr y=some zs)(hn:eu sz zs=true)(hl:a+n<=es.length):ky P fr t (.lv r sz a n) y=some (.t (.int .i64 ((Nat.min zs.length n:Nat):Int)),fr.set r (.row false tch sz (es.take a++zs.take n++es.drop (a+Nat.min zs.length n))),[]):=by
 unfold ky;have h1:Nat.ble (a+n) es.length=true:=by rw[Nat.ble_eq];exact hl
 simp only[hr,hy,hn,Nat.beq_refl];unfold ns;simp only[hb,Nat.beq_refl,h1,Bool.and_self]
def N_{P:Program}{t T sz u r:Nat}{fr:Fr}{y:SV}{tch:Bool}{es zs:List (List AV)}(hr:dY P t=some (T,sz,u))(hb:fr[r]?=some (.row false tch sz es))(hy:h_ fr y=some zs)(hn:eu sz zs=true):ky P fr t (.ls r) y=some (.t (.int .i64 ((Nat.min zs.length es.length:Nat):Int)),fr.set r (.row false tch sz (es.take 0++zs.take es.length++es.drop (0+Nat.min zs.length es.length))),[]):=by
 unfold ky;have h1:Nat.ble (0+es.length) es.length=true:=by rw[Nat.ble_eq];omega
 simp only[hr,hy,hn];simp only[hb];unfold ns;simp only[hb,Nat.beq_refl,h1,Bool.and_self]
def zz(l:List (Int×Int)):eu 2 (bJ l)=true:=by
 unfold eu bJ;rw[List.all_eq_true];intro v u;obtain⟨x,_,rfl⟩:=List.mem_map.1 u;rfl
def dE(x:Int×Int)(N m:Nat):List (List AV):=bJ (List.replicate m x++List.replicate (N - m) (0,0))
def E1{x:Int×Int}{N m:Nat}(h:m<=N):(dE x N m).length=N:=by unfold dE;rw[jy];simp;omega
def Oa{x:Int×Int}{N:Nat}:List.replicate N [AV.int .i64 0,.int .i64 0]=dE x N 0:=by unfold dE bJ;simp
def Ob{x:Int×Int}{N:Nat}:dE x N N=bJ (List.replicate N x):=by unfold dE;simp
def E2{x:Int×Int}{N m k:Nat}(h:k<=m):(dE x N m).take k=bJ (List.replicate k x):=by
 unfold dE bJ;rw[<- List.map_take,List.take_append_of_le_length (by simpa using h),List.take_replicate,Nat.min_eq_left h]
def E3{x:Int×Int}{N m k:Nat}(hk:m+k<=N):(dE x N m).take m++bJ (List.replicate k x)++(dE x N m).drop (m+k)=dE x N (m+k):=by
 rw[E2 (Nat.le_refl _)];unfold dE bJ;rw[<- List.map_drop,<- List.map_append,<- List.map_append];congr 1;rw[List.replicate_append_replicate];congr 1;rw[List.drop_append];simp;omega
def Oc{x:Int×Int}{m k:Nat}(h:k<=m):(bJ (List.replicate m x)).take k=bJ (List.replicate k x):=by
 unfold bJ;rw[<- List.map_take,List.take_replicate,Nat.min_eq_left h]
def Od{x:Int×Int}{N:Nat}(h1:1<=N)(hN:N<=216):Cl ai 141 [.t (.arr [[.int .i64 x.1,.int .i64 x.2]]),.t (.int .i64 (N:Int))] [] (.ls 0) [.row false false 2 (bJ (List.replicate N x))]:=by
 have V:ik ai.P [] 74 (.t (.int .i64 (N:Int))) (.t (.int .i64 (N:Int)))=some (.ls 0,[.row false false 2 (dE x N 0)],[]):=by
  rw[<- Oa];exact N8 (fr:=[]) (by omega)
 have km:=N6 hN;rw[<- Ob (x:=x)]
 have J:ky ai.P [.row false false 2 (dE x N 0)] 74 (.ls 0) (.t (.arr [[.int .i64 x.1,.int .i64 x.2]]))=some (.t (.int .i64 ((1:Nat):Int)),[.row false false 2 (dE x N 1)],[]):=by
  have D:h_ [.row false false 2 (dE x N 0)] (.t (.arr [[.int .i64 x.1,.int .i64 x.2]]))=some (bJ (List.replicate 1 x)):=rfl;rw[N_ E0 rfl D (zz _),E1 (Nat.zero_le _)];have y:(bJ (List.replicate 1 x)).length=1:=rfl;have e3:Nat.min 1 N=1:=Nat.min_eq_left h1;have G:(bJ (List.replicate 1 x)).take N=bJ (List.replicate 1 x):=List.take_of_length_le (by rw[y];exact h1);have I:=E3 (x:=x) (N:=N) (m:=0) (k:=1) (by omega);rw[y,e3,G,I];rfl
 refine Cl.ao rfl Tryz.func141 rfl rfl rfl ?_
 repeat'(first
|(with_reducible first|apply ac.seq|apply ac.block)
|((with_reducible apply ac.text);(try case hm=>exact rfl))
|(with_reducible first|apply ac.skip|apply az)
|((with_reducible apply ac.aH);(case hc=>exact rfl))
|((with_reducible apply aa.bC);(case hp=>exact aj))
|((with_reducible apply aa.cA);(case hp=>exact aj))
|(with_reducible apply aa.ap)
|((with_reducible apply aa.aD);(case hW=>exact rfl);(case hx=>exact ah))
|((with_reducible apply aa.u0);(case hx=>first
|((with_reducible apply ae.IP);(case hx|hs|hd=>exact rfl);(case h=>omega))
|((with_reducible apply ae.IJ);(case hx|hs|hd=>exact rfl);(case h=>omega))
|((with_reducible apply ae.d_);(case hs=>exact fun _=>rfl);(case hl|hc|hd=>exact rfl);(case hm=>exact V);(case hf=>exact leq))
|((with_reducible apply ae.D0);(case hs=>exact fun _=>rfl);(case ha|ht|hx|hy=>exact rfl);(case hm=>exact J);(case hf=>exact leq))
|(exact aq km)
|exact ah))
|fail)
 apply ac.kQ
 case ho=>exact rfl
 case hp=>exact rfl
 case hl=>exact rfl
 case hs=>exact slt
 refine aC.cB (fun m:Nat=>[(8,.t (.int .i64 (m:Int)))]) (fun m=>[.row false false 2 (dE x N m)]) (fun m=>1<=m/\m<=N) (fun m=>N - m) 1 rfl rfl ⟨by omega,h1⟩ (fun m hm=>?_);obtain⟨g1,g2⟩:=hm;have v:=E1 (x:=x) g2;have Z:(List.replicate m x++List.replicate (N - m) ((0,0):Int×Int)).length=N:=by simp;omega
 rcases Nat.lt_or_ge m N with g3|g3
 ·
  obtain⟨k,z⟩:∃k,Nat.min m (N - m)=k:=⟨_,rfl⟩
  have ab:k<=m/\k<=N - m/\1<=k:=by
   rw[<- z];have h1:=Nat.min_def (n:=m) (m:=N - m);have h2:Nat.min m (N - m)=min m (N - m):=rfl;rw[h2];omega
  have v1:jI 0 2 0 (dE x N m).length (dE x N m).length (some (.t (.int .i64 (m:Int)))) none=some (.lv 0 2 m (N - m)):=by rw[v];exact IQ (by omega) g3
  have v2:jI 0 2 0 (dE x N m).length (dE x N m).length none (some (.t (.int .i64 (m:Int))))=some (.lv 0 2 0 m):=by rw[v];exact IR g3
  have U:ky ai.P [.row false false 2 (dE x N m)] 74 (.lv 0 2 m (N - m)) (.lv 0 2 0 m)=some (.t (.int .i64 (k:Int)),[.row false false 2 (dE x N (m+k))],[]):=by
   have D:h_ [.row false false 2 (dE x N m)] (.lv 0 2 0 m)=some (bJ (List.replicate m x)):=by
    show lE [.row false false 2 (dE x N m)] 0 2 0 m=_
    have hb:Nat.ble (0+m) (dE x N m).length=true:=by rw[Nat.ble_eq,v];omega
    unfold lE;simp only[List.getElem?_cons_zero,Nat.beq_refl,hb,Bool.and_self,List.drop_zero,E2 (Nat.le_refl m)]
   rw[N9 E0 rfl D (zz _) (by rw[v];omega)];have y:(bJ (List.replicate m x)).length=m:=by rw[jy];simp
   have G:(bJ (List.replicate m x)).take (N - m)=bJ (List.replicate k x):=by
    rcases Nat.le_total m (N - m)with h|h
    ·have:k=m:=by rw[<- z];exact Nat.min_eq_left h
     rw[this];exact List.take_of_length_le (by rw[y];exact h)
    ·have:k=N - m:=by rw[<- z];exact Nat.min_eq_right h
     rw[this];exact Oc h
   have I:=E3 (x:=x) (N:=N) (m:=m) (k:=k) (by omega);rw[y,z,G,I];rfl
  repeat'(first
|(with_reducible first|apply ac.seq|apply ac.block)
|((with_reducible apply ac.text);(try case hm=>exact rfl))
|((with_reducible apply ac.nE);(case hm=>exact rfl))
|(with_reducible first|apply ac.skip|apply az)
|((with_reducible apply ac.aA);(case hc=>exact rfl))
|((with_reducible apply aa.aE);(case hp=>exact aj))
|(with_reducible first|apply aa.ap|apply aB.bj)
|((with_reducible apply aB.u);(case hfl=>kernel_rfl);(case hx=>first
|((with_reducible apply ae.Cd);(case he=>first|(with_reducible exact pn)|(with_reducible exact el1)|(with_reducible exact po)|(with_reducible exact el3)|(with_reducible exact el4)|(with_reducible exact pz)|(with_reducible exact el6)|(with_reducible exact el7)|exact rfl);(case hx|hl|hh|hb=>exact rfl);(case hv=>exact v1))
|((with_reducible apply ae.Cd);(case he=>first|(with_reducible exact pn)|(with_reducible exact el1)|(with_reducible exact po)|(with_reducible exact el3)|(with_reducible exact el4)|(with_reducible exact pz)|(with_reducible exact el6)|(with_reducible exact el7)|exact rfl);(case hx|hl|hh|hb=>exact rfl);(case hv=>exact v2))
|((with_reducible apply ae.D0);(case hs=>exact fun _=>rfl);(case ha|ht|hx|hy=>exact rfl);(case hm=>exact U);(case hf=>exact leq))
|exact ah))
|((with_reducible apply aa.u0);(case hx=>exact ah))
|fail)
  exact⟨m+k,by rw[Int.natCast_add];rfl,rfl,⟨by omega,by omega⟩,by omega⟩
 ·
  obtain rfl:m=N:=by omega
  exact af
def E4{S C:List Int}(hs:ce S=true)(h3:C.all (cg S)=true)(h1:C.length<=3):bE S C=cU S C:=yO hs (by unfold iw;rw[h3,decide_eq_true h1];rfl)
def zA{k:Int}{s:Bool}(h:bp k≠s):bp k=!s:=by
 cases s <;>cases u:bp k <;>simp_all
def E5{S:List Int}{L:List Tb}(s:Bool)(hv:bH S L=true):Cl ai 94 [.t (ax S),.t (.arr (br L)),.t (.bool s)] [] (.ls 0) [.row false false 2 (bJ (bx S L s))]:=by
 have ag:=aQ S;have ad:=e9 L;have ab:=iQ hv;have v:=ph hv
 have kv:=zy (S:=S) (L:=L) (by omega) (by omega) (fun t ht=>by
  obtain⟨k,hk⟩:=List.mem_iff_getElem?.1 ht;have:=(jp hv hk).1;omega)
 have hr:bx S L s=L.flatMap (ee S s):=by unfold bx;rw[hv];rfl
 rw[hv]at kv;rw[hr];refine Cl.ao rfl Tryz.func94 rfl rfl rfl ?_;refine ar ?_;refine aC.cB (fun x:Nat×Bool=>[(7,.ls 0),(16,.t (.int .i64 (x.1:Int)))]) (fun x=>[.row false x.2 2 (bJ ((L.take x.1).flatMap (ee S s)))]) (fun x=>x.1<=L.length) (fun x=>L.length - x.1) (0,false) rfl rfl (by simp) (fun x hq=>?_);obtain⟨q,D⟩:=x;dsimp only at hq⊢;rcases Nat.lt_or_ge q L.length with h3|h3
 ·
  obtain⟨t,ht⟩:=am h3;have hc:=eK ht;obtain⟨G,c2,I⟩:=jp hv ht;have ks:=vE t;have U:=lZ v I G;have V:=vF (S:=S) (C:=t.au) (by omega) v I G;have ak:=CR S s (L.take q);have al:(L.take q).length<=12:=by simp;omega
  obtain⟨P,hP⟩:∃P,(cU S t.au).toNat=P:=⟨_,rfl⟩;have J:cU S t.au=(P:Int):=by omega
  rw[J]at V U;have kr:=Od (x:=(t.lo,t.hi)) (N:=P) (by omega) (by omega);by_cases hs:bp t.kind=s
  ·
   have z:bJ ((L.take q).flatMap (ee S s))++bJ (List.replicate P (t.lo,t.hi))=bJ ((L.take (q+1)).flatMap (ee S s)):=by
    rw[Ei,sj ht];congr 2;unfold ee;rw[if_pos hs,E4 v I G,hP]
   have y:ca ((bJ ((L.take q).flatMap (ee S s))).length+(bJ (List.replicate P (t.lo,t.hi))).length) 16=true:=by
    rw[jy,jy,List.length_replicate];exact vz (by omega) (by decide)
   have Z:=zz (List.replicate P (t.lo,t.hi));rw[hs]at ks;cases s
   ·
    repeat'(first
|(with_reducible first|apply ac.seq|apply ac.block)
|((with_reducible apply ac.text);(try case hm=>exact rfl))
|((with_reducible apply ac.drawn);(case hm=>exact rfl))
|(with_reducible first|apply ac.skip|apply az)
|((with_reducible apply ac.aA);(case hc=>exact rfl))
|((with_reducible apply aa.aE);(case hp=>exact aj))
|(with_reducible first|apply aa.ap|apply aa.bj)
|((with_reducible apply aa.u);(case hx=>((with_reducible apply ae.eP);(case hs=>exact fun _=>rfl);(case ha|ht=>exact rfl);(case hr=>first|(with_reducible exact eH)|(with_reducible exact rw1)|(with_reducible exact eI)|(with_reducible exact rw3)|(with_reducible exact rw4)|exact rfl);(case hx|hy|hn|hb=>exact rfl);(case hok=>exact Z);(case hlen=>exact y);(case hv=>exact z);(case hk=>exact eQ);(case hf=>exact leq))))
|((with_reducible apply aa.u0);(case hx=>first
|((with_reducible apply ae.jQ (es:=[[.int .i64 t.lo,.int .i64 t.hi]]));(case hw=>exact rfl);(case ho=>kernel_rfl);(case h=>kernel_rfl))
|(exact aq ks)
|(exact aq V)
|(exact yc kr)
|exact ah))
|fail)
    exact⟨(q+1,true),rfl,rfl,by dsimp only;omega,by dsimp only;omega⟩
   ·
    repeat'(first
|(with_reducible first|apply ac.seq|apply ac.block)
|((with_reducible apply ac.text);(try case hm=>exact rfl))
|((with_reducible apply ac.drawn);(case hm=>exact rfl))
|(with_reducible first|apply ac.skip|apply az)
|((with_reducible apply ac.aA);(case hc=>exact rfl))
|((with_reducible apply aa.aE);(case hp=>exact aj))
|(with_reducible first|apply aa.ap|apply aa.bj)
|((with_reducible apply aa.u);(case hx=>((with_reducible apply ae.eP);(case hs=>exact fun _=>rfl);(case ha|ht=>exact rfl);(case hr=>first|(with_reducible exact eH)|(with_reducible exact rw1)|(with_reducible exact eI)|(with_reducible exact rw3)|(with_reducible exact rw4)|exact rfl);(case hx|hy|hn|hb=>exact rfl);(case hok=>exact Z);(case hlen=>exact y);(case hv=>exact z);(case hk=>exact eQ);(case hf=>exact leq))))
|((with_reducible apply aa.u0);(case hx=>first
|((with_reducible apply ae.jQ (es:=[[.int .i64 t.lo,.int .i64 t.hi]]));(case hw=>exact rfl);(case ho=>kernel_rfl);(case h=>kernel_rfl))
|(exact aq ks)
|(exact aq V)
|(exact yc kr)
|exact ah))
|fail)
    exact⟨(q+1,true),rfl,rfl,by dsimp only;omega,by dsimp only;omega⟩
  ·
   rw[Ej ht hs];rw[zA hs]at ks;cases s
   ·
    refine ar ?_;exact⟨(q+1,D),rfl,rfl,by dsimp only;omega,by dsimp only;omega⟩
   ·
    refine ar ?_;exact⟨(q+1,D),rfl,rfl,by dsimp only;omega,by dsimp only;omega⟩
 ·
  rw[List.take_of_length_le h3];exact af
def zB{S:List Int}{s:Bool}{c:Int}{t:Tb}(u:ce S=true)(c1:t.au.length<=3)(v:t.au.all (cg S)=true):eF S s c t=true↔bp t.kind=s/\0<=c/\0<=c - t.first/\c - t.first <cU S t.au:=by
 rw[sR,E4 u v c1]
def Oe{S:List Int}{L:List Tb}{s:Bool}{c:Int}(hv:bH S L=true)(hc:c<=9223372036854775807):match eU S L s c with
  |some (i,t)=>Cl ai 192 [.t (ax S),.t (.arr (br L)),.t (.bool s),.t (.int .i64 c)] [] (.aL [.t (.int .i64 (i:Int)),.ls 0,.t (.bool true)]) [.row false false 1 (aG (pe S t.au (c - t.first)))]
  |none=>Cl ai 192 [.t (ax S),.t (.arr (br L)),.t (.bool s),.t (.int .i64 c)] [] (.aL [.t (.int .i64 0),.nil,.t (.bool false)]) []:=by
 have bc:=aQ S;have bb:=e9 L;have a6:=iQ hv;have D:=ph hv
 have kv:=zy (S:=S) (L:=L) (by omega) (by omega) (fun t ht=>by
  obtain⟨k,hk⟩:=List.mem_iff_getElem?.1 ht;have:=(jp hv hk).1;omega)
 have hr:eU S L s c=fF (eF S s c) 0 L:=by unfold eU;rw[hv];rfl
 rw[hv]at kv;rw[hr];by_cases h0:c <0
 ·
  have hn:fF (eF S s c) 0 L=none:=by
   cases hf:fF (eF S s c) 0 L with
   |none=>rfl
   |some r=>
    have:=yQ hf;rw[sR]at this;omega
  rw[hn];refine Cl.ao rfl Tryz.func192 rfl rfl rfl ?_;exact af
 ·
  cases hf:fF (eF S s c) 0 L with
  |none=>
   show Cl ai 192 _ [] _ []
   refine Cl.ao rfl Tryz.func192 rfl rfl rfl ?_;refine ar ?_;refine aC.ind (fun q:Nat=>[(27,.t (.int .i64 (q:Int)))]) (fun q=>q<=L.length/\fF (eF S s c) q (L.drop q)=none) (fun q=>L.length - q) 0 rfl ⟨by omega,hf⟩ (fun q hq=>?_);obtain⟨h1,h2⟩:=hq;rcases Nat.lt_or_ge q L.length with h3|h3
   ·
    obtain⟨t,ht⟩:=am h3;have a1:=eK ht;obtain⟨c1,c2,c3⟩:=jp hv ht;have y:=vE t;have kw:=vF (S:=S) (C:=t.au) (by omega) D c3 c1;obtain⟨f0,f1⟩:=vQ hv ht;rw[uP ht]at h2
    cases hi:eF S s c t with
    |true=>rw[hi]at h2;cases h2
    |false=>
     rw[hi]at h2;have V:¬(bp t.kind=s/\0<=c/\0<=c - t.first/\c - t.first <cU S t.au):=fun h=>by rw[(zB D c1 c3).2 h]at hi;cases hi
     obtain⟨P,hP⟩:∃P,cU S t.au=P:=⟨_,rfl⟩;rw[hP]at kw V;by_cases hs:bp t.kind=s
     ·
      rw[hs]at y;cases s <;>
      repeat'(first
|(with_reducible first|apply ac.seq|apply ac.block)
|((with_reducible apply ac.text);(try case hm=>exact rfl))
|(with_reducible first|apply ac.skip|apply ac.exit|apply az|apply cR|apply cS)
|((with_reducible apply ac.aA);(case hc=>exact rfl))
|((with_reducible apply ac.aH);(case hc=>exact rfl))
|((with_reducible apply aa.aE);(case hp=>exact aj))
|((with_reducible apply aa.bg)<;>intro hq)
|(with_reducible apply aa.ap)
|((with_reducible apply aa.gf);(case hW=>exact rfl))
|((with_reducible apply aa.aD);(case hW=>exact rfl);(case hx=>first
|(exact aq kw)
|exact ah))
|((with_reducible apply aa.u0);(case hx=>first
|(exact aq y)
|exact ah))
|fail)
      all_goals first
       |exact⟨q+1,rfl,rfl,⟨by omega,h2⟩,by omega⟩
       |(exfalso;apply V;exact⟨hs,by omega,by omega,by omega⟩)
     ·
      rw[zA hs]at y;cases s <;>
      repeat'(first
|(with_reducible first|apply ac.seq|apply ac.block)
|((with_reducible apply ac.text);(try case hm=>exact rfl))
|(with_reducible first|apply ac.skip|apply ac.exit|apply az|apply cR|apply cS)
|((with_reducible apply ac.aA);(case hc=>exact rfl))
|((with_reducible apply aa.aE);(case hp=>exact aj))
|(with_reducible apply aa.ap)
|((with_reducible apply aa.gf);(case hW=>exact rfl))
|((with_reducible apply aa.u0);(case hx=>first
|(exact aq y)
|exact ah))
|fail)
      all_goals exact⟨q+1,rfl,rfl,⟨by omega,h2⟩,by omega⟩
   ·
    exact af
  |some it=>
   obtain⟨i,u⟩:=it;show Cl ai 192 _ [] _ _
   refine Cl.ao rfl Tryz.func192 rfl rfl rfl ?_;refine ar ?_;refine aC.ind (fun q:Nat=>[(27,.t (.int .i64 (q:Int)))]) (fun q=>q<=L.length/\fF (eF S s c) q (L.drop q)=some (i,u)) (fun q=>L.length - q) 0 rfl ⟨by omega,hf⟩ (fun q hq=>?_);obtain⟨h1,h2⟩:=hq;rcases Nat.lt_or_ge q L.length with h3|h3
   ·
    obtain⟨t,ht⟩:=am h3;have a1:=eK ht;obtain⟨c1,c2,c3⟩:=jp hv ht;have y:=vE t;have kw:=vF (S:=S) (C:=t.au) (by omega) D c3 c1;have ay:=lZ D c3 c1;obtain⟨f0,f1⟩:=vQ hv ht;rw[uP ht]at h2
    cases hi:eF S s c t with
    |true=>
     rw[hi,if_pos rfl]at h2;obtain⟨rfl,rfl⟩:q=i/\t=u:=by cases h2;exact⟨rfl,rfl⟩
     have ad:=(zB D c1 c3).1 hi;obtain⟨P,hP⟩:∃P,cU S t.au=P:=⟨_,rfl⟩;rw[hP]at kw ad ay;obtain⟨y1,y2,y3,y4⟩:=ad;rw[y1]at y;have aw:ik ai.P [.box false 107 ((dV t).map .t)] 22 (.t (.int .i64 (t.au.length:Int))) (.t (.int .i64 (t.au.length:Int)))=some (.ls 1,[.box false 107 ((dV t).map .t),.row false false 1 (aG (List.replicate t.au.length 0))],[]):=Ek (fr:=[.box false 107 ((dV t).map .t)]) (n:=t.au.length) (by omega);have ab:(List.replicate t.au.length (0:Int)).length=t.au.length:=List.length_replicate;have a_:=aQ t.au;cases s
     ·
      repeat'(first
|(with_reducible first|apply ac.seq|apply ac.block)
|((with_reducible apply ac.text);(try case hm=>exact rfl))
|(with_reducible first|apply ac.skip|apply az)
|((with_reducible apply ac.aA);(case hc=>exact rfl))
|((with_reducible apply ac.aH);(case hc=>exact rfl))
|((with_reducible apply aa.aE);(case hp=>exact aj))
|((with_reducible apply aa.cA);(case hp=>exact aj))
|(with_reducible apply aa.ap)
|((with_reducible apply aa.aD);(case hW=>exact rfl);(case hx=>first
|(exact aq kw)
|exact ah))
|((with_reducible apply aa.u0);(case hx=>first
|((with_reducible apply ae.d_);(case hs=>exact fun _=>rfl);(case hl|hc|hd=>exact rfl);(case hm=>exact aw);(case hf=>exact leq))
|(exact aq y)
|exact ah))
|fail)
      apply ac.kQ
      case ho=>exact rfl
      case hp=>exact rfl
      case hl=>exact rfl
      case hs=>exact slt
      refine aC.cB (fun x:Nat×Int×List Int=>[(13,.t (.int .i64 x.2.1)),(15,.t (.int .i64 ((x.1:Int) - 1)))]) (fun x=>[.box false 107 ((dV t).map .t),.row false false 1 (aG x.2.2)]) (fun x=>x.1<=t.au.length/\0<=x.2.1/\x.2.1<=1000/\x.2.2.length=t.au.length/\iP S t.au x.1 x.2.1 x.2.2=pe S t.au (c - t.first)) (fun x=>x.1) (t.au.length,c - t.first,List.replicate t.au.length 0) (by simp only[ab];rfl) rfl ⟨by dsimp only;omega,by dsimp only;omega,by dsimp only;omega,by simp,rfl⟩ (fun x hx=>?_);obtain⟨j,k,r⟩:=x;dsimp only at hx⊢;obtain⟨n1,n2,n3,n4,n5⟩:=hx
      cases j with
      |zero=>
       rw[<- n5];exact af
      |succ j=>
       obtain⟨c',G⟩:=am (xs:=t.au) (k:=j) (by omega);have aI:=aU G;have I:=List.all_eq_true.1 c3 c' (List.mem_of_getElem? G);obtain⟨d1,d2⟩:=uR D I;simp only[cg,Bool.and_eq_true,decide_eq_true_eq]at I;obtain⟨d3,d4⟩:=I;obtain⟨z,J⟩:=am (xs:=S) (k:=c'.toNat) (by omega);have aS:=aU J;rw[eR J]at d1 d2;obtain⟨v,an⟩:=am (xs:=r) (k:=j) (by omega);have al:=aU an;have aR:=aQ r;have ej:(((j+1:Nat):Int) - 1)=(j:Int):=by omega
       rw[ej];have ag:(aG r)[((j:Nat):Int).toNat]?=some [.int .i64 v]:=by rw[Int.toNat_natCast];exact al
       have ak:(aG r).set ((j:Nat):Int).toNat [.int .i64 (k.tmod z)]=aG (r.set j (k.tmod z)):=by rw[Int.toNat_natCast];simp[aG,List.map_set]
       have hd:0<=k.tdiv z/\k.tdiv z<=k:=by
        rw[Int.tdiv_eq_ediv_of_nonneg n2];exact⟨Int.ediv_nonneg n2 (by omega),Int.ediv_le_self _ n2⟩
       have Z:iP S t.au (j+1) k r=iP S t.au j (k.tdiv z) (r.set j (k.tmod z)):=by
        have e1:t.au.getD j 0=c':=eR G;have e2:S.getD c'.toNat 0=z:=eR J;rw[iP,e1,e2]
       obtain⟨kd,U⟩:∃kd,k.tdiv z=kd:=⟨_,rfl⟩;rw[U]at hd Z
       repeat'(first
|(with_reducible first|apply ac.seq|apply ac.block)
|((with_reducible apply ac.text);(try case hm=>exact rfl))
|((with_reducible apply ac.nE);(case hm=>exact rfl))
|(with_reducible first|apply ac.skip|apply az)
|((with_reducible apply ac.aA);(case hc=>exact rfl))
|((with_reducible apply aa.aE);(case hp=>exact aj))
|(with_reducible first|apply aa.ap|apply aB.bj)
|((with_reducible apply aB.u);(case hfl=>kernel_rfl);(case hx=>first
|((with_reducible apply ae.kR);(case hx|hy=>exact rfl);(case hn=>omega);(case h=>exact rfl))
|((with_reducible apply ae.gl);(case hx|hy=>exact rfl);(case hn=>omega);(case h=>exact U);(case hb=>omega))
|((with_reducible apply ae.o7);(case hs=>exact fun _=>rfl);(case ha|hy|ht|hone=>exact rfl);(case hn=>kernel_rfl);(case hb=>exact rfl);(case hk=>exact ag);(case hj=>exact rfl);(case hv=>exact ak);(case hf=>exact leq))
|exact ah))
|((with_reducible apply aa.u0);(case hx=>exact ah))
|fail)
       exact⟨(j,kd,r.set j (k.tmod z)),rfl,rfl,⟨by dsimp only;omega,by dsimp only;omega,by dsimp only;omega,by simp[n4],by dsimp only;rw[<- Z];exact n5⟩,by dsimp only;omega⟩
     ·
      repeat'(first
|(with_reducible first|apply ac.seq|apply ac.block)
|((with_reducible apply ac.text);(try case hm=>exact rfl))
|(with_reducible first|apply ac.skip|apply az)
|((with_reducible apply ac.aA);(case hc=>exact rfl))
|((with_reducible apply ac.aH);(case hc=>exact rfl))
|((with_reducible apply aa.aE);(case hp=>exact aj))
|((with_reducible apply aa.cA);(case hp=>exact aj))
|(with_reducible apply aa.ap)
|((with_reducible apply aa.aD);(case hW=>exact rfl);(case hx=>first
|(exact aq kw)
|exact ah))
|((with_reducible apply aa.u0);(case hx=>first
|((with_reducible apply ae.d_);(case hs=>exact fun _=>rfl);(case hl|hc|hd=>exact rfl);(case hm=>exact aw);(case hf=>exact leq))
|(exact aq y)
|exact ah))
|fail)
      apply ac.kQ
      case ho=>exact rfl
      case hp=>exact rfl
      case hl=>exact rfl
      case hs=>exact slt
      refine aC.cB (fun x:Nat×Int×List Int=>[(13,.t (.int .i64 x.2.1)),(15,.t (.int .i64 ((x.1:Int) - 1)))]) (fun x=>[.box false 107 ((dV t).map .t),.row false false 1 (aG x.2.2)]) (fun x=>x.1<=t.au.length/\0<=x.2.1/\x.2.1<=1000/\x.2.2.length=t.au.length/\iP S t.au x.1 x.2.1 x.2.2=pe S t.au (c - t.first)) (fun x=>x.1) (t.au.length,c - t.first,List.replicate t.au.length 0) (by simp only[ab];rfl) rfl ⟨by dsimp only;omega,by dsimp only;omega,by dsimp only;omega,by simp,rfl⟩ (fun x hx=>?_);obtain⟨j,k,r⟩:=x;dsimp only at hx⊢;obtain⟨n1,n2,n3,n4,n5⟩:=hx
      cases j with
      |zero=>
       rw[<- n5];exact af
      |succ j=>
       obtain⟨c',G⟩:=am (xs:=t.au) (k:=j) (by omega);have aI:=aU G;have I:=List.all_eq_true.1 c3 c' (List.mem_of_getElem? G);obtain⟨d1,d2⟩:=uR D I;simp only[cg,Bool.and_eq_true,decide_eq_true_eq]at I;obtain⟨d3,d4⟩:=I;obtain⟨z,J⟩:=am (xs:=S) (k:=c'.toNat) (by omega);have aS:=aU J;rw[eR J]at d1 d2;obtain⟨v,an⟩:=am (xs:=r) (k:=j) (by omega);have al:=aU an;have aR:=aQ r;have ej:(((j+1:Nat):Int) - 1)=(j:Int):=by omega
       rw[ej];have ag:(aG r)[((j:Nat):Int).toNat]?=some [.int .i64 v]:=by rw[Int.toNat_natCast];exact al
       have ak:(aG r).set ((j:Nat):Int).toNat [.int .i64 (k.tmod z)]=aG (r.set j (k.tmod z)):=by rw[Int.toNat_natCast];simp[aG,List.map_set]
       have hd:0<=k.tdiv z/\k.tdiv z<=k:=by
        rw[Int.tdiv_eq_ediv_of_nonneg n2];exact⟨Int.ediv_nonneg n2 (by omega),Int.ediv_le_self _ n2⟩
       have Z:iP S t.au (j+1) k r=iP S t.au j (k.tdiv z) (r.set j (k.tmod z)):=by
        have e1:t.au.getD j 0=c':=eR G;have e2:S.getD c'.toNat 0=z:=eR J;rw[iP,e1,e2]
       obtain⟨kd,U⟩:∃kd,k.tdiv z=kd:=⟨_,rfl⟩;rw[U]at hd Z
       repeat'(first
|(with_reducible first|apply ac.seq|apply ac.block)
|((with_reducible apply ac.text);(try case hm=>exact rfl))
|((with_reducible apply ac.nE);(case hm=>exact rfl))
|(with_reducible first|apply ac.skip|apply az)
|((with_reducible apply ac.aA);(case hc=>exact rfl))
|((with_reducible apply aa.aE);(case hp=>exact aj))
|(with_reducible first|apply aa.ap|apply aB.bj)
|((with_reducible apply aB.u);(case hfl=>kernel_rfl);(case hx=>first
|((with_reducible apply ae.kR);(case hx|hy=>exact rfl);(case hn=>omega);(case h=>exact rfl))
|((with_reducible apply ae.gl);(case hx|hy=>exact rfl);(case hn=>omega);(case h=>exact U);(case hb=>omega))
|((with_reducible apply ae.o7);(case hs=>exact fun _=>rfl);(case ha|hy|ht|hone=>exact rfl);(case hn=>kernel_rfl);(case hb=>exact rfl);(case hk=>exact ag);(case hj=>exact rfl);(case hv=>exact ak);(case hf=>exact leq))
|exact ah))
|((with_reducible apply aa.u0);(case hx=>exact ah))
|fail)
       exact⟨(j,kd,r.set j (k.tmod z)),rfl,rfl,⟨by dsimp only;omega,by dsimp only;omega,by dsimp only;omega,by simp[n4],by dsimp only;rw[<- Z];exact n5⟩,by dsimp only;omega⟩
    |false=>
     rw[hi]at h2;have V:¬(bp t.kind=s/\0<=c/\0<=c - t.first/\c - t.first <cU S t.au):=fun h=>by rw[(zB D c1 c3).2 h]at hi;cases hi
     obtain⟨P,hP⟩:∃P,cU S t.au=P:=⟨_,rfl⟩;rw[hP]at kw V;by_cases hs:bp t.kind=s
     ·
      rw[hs]at y;cases s <;>
      repeat'(first
|(with_reducible first|apply ac.seq|apply ac.block)
|((with_reducible apply ac.text);(try case hm=>exact rfl))
|(with_reducible first|apply ac.skip|apply ac.exit|apply az|apply cR|apply cS)
|((with_reducible apply ac.aA);(case hc=>exact rfl))
|((with_reducible apply ac.aH);(case hc=>exact rfl))
|((with_reducible apply aa.aE);(case hp=>exact aj))
|((with_reducible apply aa.bg)<;>intro hq)
|(with_reducible apply aa.ap)
|((with_reducible apply aa.gf);(case hW=>exact rfl))
|((with_reducible apply aa.aD);(case hW=>exact rfl);(case hx=>first
|(exact aq kw)
|exact ah))
|((with_reducible apply aa.u0);(case hx=>first
|(exact aq y)
|exact ah))
|fail)
      all_goals first
       |exact⟨q+1,rfl,rfl,⟨by omega,h2⟩,by omega⟩
       |(exfalso;apply V;exact⟨hs,by omega,by omega,by omega⟩)
     ·
      rw[zA hs]at y;cases s <;>
      repeat'(first
|(with_reducible first|apply ac.seq|apply ac.block)
|((with_reducible apply ac.text);(try case hm=>exact rfl))
|(with_reducible first|apply ac.skip|apply ac.exit|apply az|apply cR|apply cS)
|((with_reducible apply ac.aA);(case hc=>exact rfl))
|((with_reducible apply aa.aE);(case hp=>exact aj))
|(with_reducible apply aa.ap)
|((with_reducible apply aa.gf);(case hW=>exact rfl))
|((with_reducible apply aa.u0);(case hx=>first
|(exact aq y)
|exact ah))
|fail)
      all_goals exact⟨q+1,rfl,rfl,⟨by omega,h2⟩,by omega⟩
   ·
    rw[CM h3]at h2;cases h2
end Go.Proofs.YtjolgbkkocjpgaaGreatDoor
