/- Layouts as the code judges them,as contracts. No condition. -/
import Derived.Test.YtcgdbhlnkificaaGreatDoorTM
import Derived.Test.YtcgdbhlnkificaaGreatDoorTNC
import Derived.Test.YtcgdbhlnkificaaGreatDoorTP
set_option linter.all false
namespace Go.Proofs.YtcgdbhlnkificaaGreatDoor
open Go.RowKit
set_option maxRecDepth 100000
set_option maxHeartbeats 16000000
def Dx(s:ByteArray):Cl aj 133 [.t (.str s)] [] (.t (.bool (gq s))) []:=by
 rw[<- BA s];generalize s.data.toList=l;have y:(bs l).size=l.length:=eJ l;have v:gq (bs l)=oF l:=by unfold gq;simp[bs]
 rw[v];rcases Nat.lt_or_ge 1000000 l.length with h|h
 ·
  have u:oF l=false:=by
   unfold oF;rw[decide_eq_false (show¬l.length<=16 by omega)]
   first|rfl|exact Bool.and_false _
  rw[u];refine Cl.ap rfl Tryz.func133 rfl rfl rfl ?_;exact ah
 ·exact Lj h
def mz(L:List Tb)(q:Nat):List ByteArray:=(L.take q).map (·.name)
def DD{L:List Tb}{q:Nat}{s:ByteArray}:((mz L q).any fun u=>decide (u=s))=(L.take q).any fun u=>decide (u.name=s):=by unfold mz;rw[List.any_map];rfl
def LA{L:List Tb}{q:Nat}(h:q<=L.length):(mz L q).length=q:=by unfold mz;simp;omega
def LB{L:List Tb}{q:Nat}{t:Tb}(h:L[q]?=some t):kZ (mz L q)++[.str t.name]=kZ (mz L (q+1)):=by unfold mz kZ;rw[List.take_add_one,h];simp
def yU(S:List Int)(L:List Tb)(q:Nat):Fr:=[.map false (kZ (mz L q)) (dV q),.box false 3 [.t (.int .i64 (bF S true (L.take q)))],.box false 3 [.t (.int .i64 (bF S false (L.take q)))]]
def xF{S:List Int}{L:List Tb}(hS:S.length<=140737488351232)(hL:L.length<=140737488351232)(hC:∀t∈L,t.au.length<=140737488351232):Cl aj 98 [.t (aD S),.t (.arr (bC L))] [] (.t (.bool (bJ S L))) []:=by
 rw[<- vz];have bf:=aW S;have be:=fT L;have kS:=IC (S:=S) (by omega);obtain⟨b1,U⟩:∃b,decide ((S.length:Int)<=4)=b:=⟨_,rfl⟩;obtain⟨b2,V⟩:∃b,decide ((L.length:Int)<=12)=b:=⟨_,rfl⟩;obtain⟨b3,ao⟩:∃b,ck S=b:=⟨_,rfl⟩;have k3:=HD b1 b2 b3;rw[<- U,<- V]at k3;have e1:decide (S.length<=4)=b1:=by rw[<- U];simp;omega
 have e2:decide (L.length<=12)=b2:=by rw[<- V];simp;omega
 obtain⟨T,hT⟩:∃T,(aK (lX S L) 0 (L.drop 0)&&(decide (bF S true L<=128)&&decide (bF S false L<=64)))=T:=⟨_,rfl⟩;have e0:te S L=((b1&&(b2&&b3))&&T):=by rw[<- hT];unfold te;rw[e1,e2,ao];rfl
 rw[e0];rw[ao]at kS;refine Cl.ap rfl Tryz.func98 rfl rfl rfl ?_
 cases hb:(b1&&(b2&&b3))with
 |false=>
  have k3:Cl aj 131 [.t (.arr [[.bool (decide ((S.length:Int)<=4))],[.bool (decide ((L.length:Int)<=12))],[.bool b3]])] [] (.t (.bool false)) []:=by rw[<- hb,<- U,<- V];exact k3
  repeat'(first
|(refine aw ?_)
|((with_reducible apply aa.u0);(case hx=>first
|((with_reducible apply af.mv);(conv=>lhs;whnf);try exact rfl)
|((with_reducible apply af.asg);(conv=>lhs;whnf);try exact rfl)
|((with_reducible apply af.jo (es:=[[.bool (decide ((S.length:Int)<=4))],[.bool (decide ((L.length:Int)<=12))],[.bool b3]]));(case hw=>exact rfl);(case ho=>kernel_rfl);(case h=>kernel_rfl))
|(exact ai kS)
|(exact ai k3)
|((with_reducible apply af.len);(case ha|hy|ht|hs=>exact rfl);(case hn=>first|exact List.length_map _|exact rfl))
|exact af.r fun _=>rfl))
|fail)
  exact⟨.inr rfl,rfl⟩
 |true=>
  have k3:Cl aj 131 [.t (.arr [[.bool (decide ((S.length:Int)<=4))],[.bool (decide ((L.length:Int)<=12))],[.bool b3]])] [] (.t (.bool true)) []:=by rw[<- hb,<- U,<- V];exact k3
  rw[Bool.and_eq_true,Bool.and_eq_true]at hb;obtain⟨aX,aY,a6⟩:=hb;have Z:ck S=true:=by rw[ao,a6]
  have bd:L.length<=12:=by rw[aY]at e2;simpa using e2
  have h4:S.length<=4:=by rw[aX]at e1;simpa using e1
  rw[Bool.true_and,<- hT]
  repeat'(first
|(refine aw ?_)
|((with_reducible apply aa.u0);(case hx=>first
|((with_reducible apply af.mv);(conv=>lhs;whnf);try exact rfl)
|((with_reducible apply af.asg);(conv=>lhs;whnf);try exact rfl)
|((with_reducible apply af.jo (es:=[[.bool (decide ((S.length:Int)<=4))],[.bool (decide ((L.length:Int)<=12))],[.bool b3]]));(case hw=>exact rfl);(case ho=>kernel_rfl);(case h=>kernel_rfl))
|(exact ai kS)
|(exact ai k3)
|((with_reducible apply af.len);(case ha|hy|ht|hs=>exact rfl);(case hn=>first|exact List.length_map _|exact rfl))
|((with_reducible apply af.al);(case hs=>exact fun _=>rfl);(case hz=>exact rfl);(case hc=>exact leq);(case hn=>exact Dy);(case hf=>exact leq))
|((with_reducible apply af.Gb);(case hs=>exact fun _=>rfl);(case ha|hy=>exact rfl);(case ht=>first|(with_reducible exact sz0)|(with_reducible exact eD)|(with_reducible exact qb)|(with_reducible exact sz3)|(with_reducible exact qc)|(with_reducible exact sz5)|(with_reducible exact sz6)|(with_reducible exact sz7)|(with_reducible exact sz8)|(with_reducible exact sz9)|exact rfl);(case hv=>exact rfl);(case ho=>kernel_rfl);(case hb=>exact rfl);(case hc=>kernel_rfl);(case hd=>exact leq);(case hf=>exact leq))
|exact af.r fun _=>rfl))
|fail)
  apply ac.cR
  case ho=>exact rfl
  case hp=>exact rfl
  case hl=>exact rfl
  case hs=>exact slt
  refine az.c8 (fun q:Nat=>[(25,.t (.int .i64 (q:Int)))]) (fun q=>yU S L q) (fun q=>q<=L.length/\aK (lX S L) 0 (L.drop 0)=aK (lX S L) q (L.drop q)) (fun q=>L.length - q) 0 rfl rfl ⟨by omega,rfl⟩ (fun q hq=>?_);obtain⟨h1,h2⟩:=hq;rw[h2];rcases Nat.lt_or_ge q L.length with h3|h3
  ·
   obtain⟨t,ht⟩:=am h3;have hc:=fB ht;have kn:=Dx t.name;have kw:=BZ t.kind 0 5;have kc:=HR (S:=S) (C:=t.au) (by omega) (hC t (List.mem_of_getElem? ht));have kr:=Iy t;have ks:=uM t;obtain⟨J,aA⟩:∃b,gq t.name=b:=⟨_,rfl⟩;obtain⟨a3,aB⟩:∃b,(decide (0<=t.kind)&&decide (t.kind<=5))=b:=⟨_,rfl⟩;obtain⟨a4,an⟩:∃b,iz S t.au=b:=⟨_,rfl⟩;obtain⟨a5,aG⟩:∃b,rF t=b:=⟨_,rfl⟩;have aR:lX S L q t=((J&&(!((L.take q).any fun u=>decide (u.name=t.name))&&(a3&&(a4&&a5))))&&decide (t.first=bF S (bz t.kind) (L.take q))):=by unfold lX;rw[aA,aB,an,aG]
   have v:=dl (p:=lX S L) ht;have z:=dm (p:=lX S L) ht;rw[aR]at v z;rw[aA]at kn;rw[aB]at kw;rw[an]at kc;rw[aG]at kr;have hks:=LB ht;have hvs:=w_ q;unfold yU
   cases ha:(L.take q).any fun u=>decide (u.name=t.name)with
   |true=>
    obtain⟨j,hf,hj⟩:=yx (s:=t.name) (N:=mz L q) (by rw[DD];exact ha);have hz:=tX (n:=q) (j:=j) (by rw[LA h1]at hj;omega);have I:=BE J false a3 a4 a5;rw[Bool.false_and,Bool.and_false]at I;rw[v (by rw[ha];simp)]
    repeat'(first
|((with_reducible apply aa.aF);(case hp=>exact ak))
|(refine aw ?_)
|((with_reducible apply aa.u0);(case hx=>first
|((with_reducible apply af.oC);(case hm|hk|ho=>exact rfl);(case hf=>exact hf);(case hz=>exact hz))
|((with_reducible apply af.jo (es:=[[.bool J],[.bool false],[.bool a3],[.bool a4],[.bool a5]]));(case hw=>exact rfl);(case ho=>kernel_rfl);(case h=>kernel_rfl))
|(exact ai kn)
|(exact ai kw)
|(exact ai kc)
|(exact ai kr)
|(exact ai I)
|exact ae))
|fail)
    exact⟨.inr rfl,rfl⟩
   |false=>
    have hf:=yw (s:=t.name) (N:=mz L q) (by rw[DD];exact ha);have I:=BE J true a3 a4 a5;rw[Bool.true_and]at I;rw[ha,Bool.not_false,Bool.true_and]at v z
    cases D:(J&&(a3&&(a4&&a5)))with
    |false=>
     rw[D]at I;rw[v (by rw[D];simp)]
     repeat'(first
|((with_reducible apply aa.aF);(case hp=>exact ak))
|(refine aw ?_)
|((with_reducible apply aa.u0);(case hx=>first
|((with_reducible apply af.lk);(case hm|hk|ho=>exact rfl);(case hf=>exact hf);(case hz=>exact rfl))
|((with_reducible apply af.jo (es:=[[.bool J],[.bool true],[.bool a3],[.bool a4],[.bool a5]]));(case hw=>exact rfl);(case ho=>kernel_rfl);(case h=>kernel_rfl))
|(exact ai kn)
|(exact ai kw)
|(exact ai kc)
|(exact ai kr)
|(exact ai I)
|exact ae))
|fail)
     exact⟨.inr rfl,rfl⟩
    |true=>
     rw[D]at I;rw[D,Bool.true_and,decide_eq_true_eq]at v z
     have av:iz S t.au=true:=by
      rw[Bool.and_eq_true,Bool.and_eq_true,Bool.and_eq_true]at D;rw[an,D.2.2.1]
     have y:=av;unfold iz at y;rw[Bool.and_eq_true,decide_eq_true_eq]at y;have ax:=uN (S:=S) (by omega) Z y.2 y.1;have aT:=nC Z y.2 y.1;have aN:=BR (s:=true) Z av ht;have aM:=BR (s:=false) Z av ht;have ag:=mj (S:=S) true (L.take q);have ad:=mj (S:=S) false (L.take q);have bb:(L.take q).length=q:=by simp;omega
     rw[bb]at ag ad;obtain⟨P,hP⟩:∃P,dx S t.au=P:=⟨_,rfl⟩;rw[hP]at ax aT
     cases ab:bz t.kind with
     |true=>
      rw[ab]at ks v z;obtain⟨x,hx⟩:∃x,bF S true (L.take q)=x:=⟨_,rfl⟩;rw[hx]at ag v z⊢;by_cases G:t.first=x
      ·
       repeat'(first
|(refine a8 ?_)
|(refine aw ?_)
|((with_reducible apply aa.u0);(case hx=>first
|((with_reducible apply af.lk);(case hm|hk|ho=>exact rfl);(case hf=>exact hf);(case hz=>exact rfl))
|((with_reducible apply af.jo (es:=[[.bool J],[.bool true],[.bool a3],[.bool a4],[.bool a5]]));(case hw=>exact rfl);(case ho=>kernel_rfl);(case h=>kernel_rfl))
|((with_reducible apply af.pT);(case hs=>exact fun _=>rfl);(case hm|ha|hk|hd|hy|hb=>exact rfl);(case hf=>exact hf);(case hks=>exact hks);(case hvs=>exact hvs);(case hfr=>exact leq))
|(exact ai kn)
|(exact ai kw)
|(exact ai kc)
|(exact ai kr)
|(exact ai ks)
|(exact ai I)
|(exact ai ax)
|exact ae))
|fail)
       exact⟨q+1,rfl,CN (by rw[aN,aM,ab,hx,hP];rfl),⟨by omega,z G⟩,by omega⟩
      ·
       rw[v G]
       repeat'(first
|(refine a8 ?_)
|(refine aw ?_)
|((with_reducible apply aa.u0);(case hx=>first
|((with_reducible apply af.lk);(case hm|hk|ho=>exact rfl);(case hf=>exact hf);(case hz=>exact rfl))
|((with_reducible apply af.jo (es:=[[.bool J],[.bool true],[.bool a3],[.bool a4],[.bool a5]]));(case hw=>exact rfl);(case ho=>kernel_rfl);(case h=>kernel_rfl))
|((with_reducible apply af.pT);(case hs=>exact fun _=>rfl);(case hm|ha|hk|hd|hy|hb=>exact rfl);(case hf=>exact hf);(case hks=>exact hks);(case hvs=>exact hvs);(case hfr=>exact leq))
|(exact ai kn)
|(exact ai kw)
|(exact ai kc)
|(exact ai kr)
|(exact ai ks)
|(exact ai I)
|exact ae))
|fail)
       exact⟨.inr rfl,rfl⟩
     |false=>
      rw[ab]at ks v z;obtain⟨x,hx⟩:∃x,bF S false (L.take q)=x:=⟨_,rfl⟩;rw[hx]at ad v z⊢;by_cases G:t.first=x
      ·
       repeat'(first
|(refine a8 ?_)
|(refine aw ?_)
|((with_reducible apply aa.u0);(case hx=>first
|((with_reducible apply af.lk);(case hm|hk|ho=>exact rfl);(case hf=>exact hf);(case hz=>exact rfl))
|((with_reducible apply af.jo (es:=[[.bool J],[.bool true],[.bool a3],[.bool a4],[.bool a5]]));(case hw=>exact rfl);(case ho=>kernel_rfl);(case h=>kernel_rfl))
|((with_reducible apply af.pT);(case hs=>exact fun _=>rfl);(case hm|ha|hk|hd|hy|hb=>exact rfl);(case hf=>exact hf);(case hks=>exact hks);(case hvs=>exact hvs);(case hfr=>exact leq))
|(exact ai kn)
|(exact ai kw)
|(exact ai kc)
|(exact ai kr)
|(exact ai ks)
|(exact ai I)
|(exact ai ax)
|exact ae))
|fail)
       exact⟨q+1,rfl,CN (by rw[aN,aM,ab,hx,hP];rfl),⟨by omega,z G⟩,by omega⟩
      ·
       rw[v G]
       repeat'(first
|(refine a8 ?_)
|(refine aw ?_)
|((with_reducible apply aa.u0);(case hx=>first
|((with_reducible apply af.lk);(case hm|hk|ho=>exact rfl);(case hf=>exact hf);(case hz=>exact rfl))
|((with_reducible apply af.jo (es:=[[.bool J],[.bool true],[.bool a3],[.bool a4],[.bool a5]]));(case hw=>exact rfl);(case ho=>kernel_rfl);(case h=>kernel_rfl))
|((with_reducible apply af.pT);(case hs=>exact fun _=>rfl);(case hm|ha|hk|hd|hy|hb=>exact rfl);(case hf=>exact hf);(case hks=>exact hks);(case hvs=>exact hvs);(case hfr=>exact leq))
|(exact ai kn)
|(exact ai kw)
|(exact ai kc)
|(exact ai kr)
|(exact ai ks)
|(exact ai I)
|exact ae))
|fail)
       exact⟨.inr rfl,rfl⟩
  ·
   rw[cL h3,Bool.true_and];unfold yU;rw[List.take_of_length_le h3];exact ah
def J0{C:List Tb}{p:Tb->Bool}{c1 c2:AV}(hl:C.length<=140737488351232)(hp:∀x∈C,Cl aj 175 [.t (.agg (gC x)),.t c1,.t c2] [] (.t (.bool (p x))) []):Cl aj 190 [.t (.arr (bC C)),.t (.fn (.func 175) 0 [c1,c2])] [] (.t (.int .i64 (bB p C 0))) []:=by
 have z:=fT C;refine Cl.ap rfl Tryz.func190 rfl rfl rfl ?_;refine aq ?_;refine az.ind (fun q:Nat=>[(8,.t (.int .i64 (q:Int)))]) (fun q=>q<=C.length/\bB p C 0=bB p (C.drop q) q) (fun q=>C.length - q) 0 rfl (by simp) (fun q D=>?_);obtain⟨h1,h2⟩:=D;rw[h2];rcases Nat.lt_or_ge q C.length with h3|h3
 ·
  obtain⟨e,u⟩:=am h3;have G:=fB u;have v:=hp e (List.mem_of_getElem? u);rw[drop_at u,ly];obtain⟨b,y⟩:∃b,p e=b:=⟨_,rfl⟩;rw[y]at v⊢
  cases b with
  |true=>
   exact ah
  |false=>
   exact ah
 ·
  rw[List.drop_of_length_le h3];exact ah
def Im{C:List Tb}{p:Tb->Bool}{c1 c2:AV}(hl:C.length<=140737488351232)(hp:∀x∈C,Cl aj 175 [.t (.agg (gC x)),.t c1,.t c2] [] (.t (.bool (p x))) []):Cl aj 174 [.t (.arr (bC C)),.t (.fn (.func 175) 0 [c1,c2])] [] (.t (.bool (C.any p))) []:=by
 have u:=J0 hl hp;rw[<- kF p C 0 (by omega)];refine Cl.ap rfl Tryz.func174 rfl rfl rfl ?_;obtain⟨n,v⟩:∃n,bB p C 0=n:=⟨_,rfl⟩;rw[v]at u⊢;exact ah
def JZ{C:List Rw}{p:Rw->Bool}{c1:AV}(hl:C.length<=140737488351232)(hp:∀x∈C,Cl aj 180 [.t (.agg (fa x)),.t c1] [] (.t (.bool (p x))) []):Cl aj 193 [.t (.arr (iK C)),.t (.fn (.func 180) 0 [c1])] [] (.t (.int .i64 (bB p C 0))) []:=by
 have z:=wi C;refine Cl.ap rfl Tryz.func193 rfl rfl rfl ?_;refine aq ?_;refine az.ind (fun q:Nat=>[(8,.t (.int .i64 (q:Int)))]) (fun q=>q<=C.length/\bB p C 0=bB p (C.drop q) q) (fun q=>C.length - q) 0 rfl (by simp) (fun q D=>?_);obtain⟨h1,h2⟩:=D;rw[h2];rcases Nat.lt_or_ge q C.length with h3|h3
 ·
  obtain⟨e,u⟩:=am h3;have G:=Fu u;have v:=hp e (List.mem_of_getElem? u);rw[drop_at u,ly];obtain⟨b,y⟩:∃b,p e=b:=⟨_,rfl⟩;rw[y]at v⊢
  cases b with
  |true=>
   exact ah
  |false=>
   exact ah
 ·
  rw[List.drop_of_length_le h3];exact ah
def Il{C:List Rw}{p:Rw->Bool}{c1:AV}(hl:C.length<=140737488351232)(hp:∀x∈C,Cl aj 180 [.t (.agg (fa x)),.t c1] [] (.t (.bool (p x))) []):Cl aj 179 [.t (.arr (iK C)),.t (.fn (.func 180) 0 [c1])] [] (.t (.bool (C.any p))) []:=by
 have u:=JZ hl hp;rw[<- kF p C 0 (by omega)];refine Cl.ap rfl Tryz.func179 rfl rfl rfl ?_;obtain⟨n,v⟩:∃n,bB p C 0=n:=⟨_,rfl⟩;rw[v]at u⊢;exact ah
def J3{C:List Int}{p:Int->Bool}{c1:AV}(hl:C.length<=140737488351232)(hp:∀x∈C,Cl aj 144 [.t (.int .i64 x),.t c1] [] (.t (.bool (p x))) []):Cl aj 90 [.t (aD C),.t (.fn (.func 144) 0 [c1])] [] (.t (.int .i64 (bB p C 0))) []:=by
 have z:=aW C;refine Cl.ap rfl Tryz.func90 rfl rfl rfl ?_;refine aq ?_;refine az.ind (fun q:Nat=>[(8,.t (.int .i64 (q:Int)))]) (fun q=>q<=C.length/\bB p C 0=bB p (C.drop q) q) (fun q=>C.length - q) 0 rfl (by simp) (fun q D=>?_);obtain⟨h1,h2⟩:=D;rw[h2];rcases Nat.lt_or_ge q C.length with h3|h3
 ·
  obtain⟨e,u⟩:=am h3;have G:=bg u;have v:=hp e (List.mem_of_getElem? u);rw[drop_at u,ly];obtain⟨b,y⟩:∃b,p e=b:=⟨_,rfl⟩;rw[y]at v⊢
  cases b with
  |true=>
   exact ah
  |false=>
   exact ah
 ·
  rw[List.drop_of_length_le h3];exact ah
def Ip{C:List Int}{p:Int->Bool}{c1:AV}(hl:C.length<=140737488351232)(hp:∀x∈C,Cl aj 144 [.t (.int .i64 x),.t c1] [] (.t (.bool (p x))) []):Cl aj 42 [.t (aD C),.t (.fn (.func 144) 0 [c1])] [] (.t (.bool (C.any p))) []:=by
 have u:=J3 hl hp;rw[<- kF p C 0 (by omega)];refine Cl.ap rfl Tryz.func42 rfl rfl rfl ?_;obtain⟨n,v⟩:∃n,bB p C 0=n:=⟨_,rfl⟩;rw[v]at u⊢;exact ah
def J2{C:List Mem}{p:Mem->Bool}{c1 c2:AV}(hl:C.length<=140737488351232)(hp:∀x∈C,Cl aj 108 [.t (.agg (g_ x)),.t c1,.t c2] [] (.t (.bool (p x))) []):Cl aj 109 [.t (.arr (cM C)),.t (.fn (.func 108) 0 [c1,c2])] [] (.t (.int .i64 (bB p C 0))) []:=by
 have z:=lG C;refine Cl.ap rfl Tryz.func109 rfl rfl rfl ?_;refine aq ?_;refine az.ind (fun q:Nat=>[(8,.t (.int .i64 (q:Int)))]) (fun q=>q<=C.length/\bB p C 0=bB p (C.drop q) q) (fun q=>C.length - q) 0 rfl (by simp) (fun q D=>?_);obtain⟨h1,h2⟩:=D;rw[h2];rcases Nat.lt_or_ge q C.length with h3|h3
 ·
  obtain⟨e,u⟩:=am h3;have G:=i_ u;have v:=hp e (List.mem_of_getElem? u);rw[drop_at u,ly];obtain⟨b,y⟩:∃b,p e=b:=⟨_,rfl⟩;rw[y]at v⊢
  cases b with
  |true=>
   exact ah
  |false=>
   exact ah
 ·
  rw[List.drop_of_length_le h3];exact ah
def BS{C:List Mem}{p:Mem->Bool}{c1 c2:AV}(hl:C.length<=140737488351232)(hp:∀x∈C,Cl aj 108 [.t (.agg (g_ x)),.t c1,.t c2] [] (.t (.bool (p x))) []):Cl aj 67 [.t (.arr (cM C)),.t (.fn (.func 108) 0 [c1,c2])] [] (.t (.bool (C.any p))) []:=by
 have u:=J2 hl hp;rw[<- kF p C 0 (by omega)];refine Cl.ap rfl Tryz.func67 rfl rfl rfl ?_;obtain⟨n,v⟩:∃n,bB p C 0=n:=⟨_,rfl⟩;rw[v]at u⊢;exact ah
def J4{C:List Mem}{p:Mem->Bool}{c1:AV}(hl:C.length<=140737488351232)(hp:∀x∈C,Cl aj 113 [.t (.agg (g_ x)),.t c1] [] (.t (.bool (p x))) []):Cl aj 109 [.t (.arr (cM C)),.t (.fn (.func 113) 0 [c1])] [] (.t (.int .i64 (bB p C 0))) []:=by
 have z:=lG C;refine Cl.ap rfl Tryz.func109 rfl rfl rfl ?_;refine aq ?_;refine az.ind (fun q:Nat=>[(8,.t (.int .i64 (q:Int)))]) (fun q=>q<=C.length/\bB p C 0=bB p (C.drop q) q) (fun q=>C.length - q) 0 rfl (by simp) (fun q D=>?_);obtain⟨h1,h2⟩:=D;rw[h2];rcases Nat.lt_or_ge q C.length with h3|h3
 ·
  obtain⟨e,u⟩:=am h3;have G:=i_ u;have v:=hp e (List.mem_of_getElem? u);rw[drop_at u,ly];obtain⟨b,y⟩:∃b,p e=b:=⟨_,rfl⟩;rw[y]at v⊢
  cases b with
  |true=>
   exact ah
  |false=>
   exact ah
 ·
  rw[List.drop_of_length_le h3];exact ah
def Iq{C:List Mem}{p:Mem->Bool}{c1:AV}(hl:C.length<=140737488351232)(hp:∀x∈C,Cl aj 113 [.t (.agg (g_ x)),.t c1] [] (.t (.bool (p x))) []):Cl aj 67 [.t (.arr (cM C)),.t (.fn (.func 113) 0 [c1])] [] (.t (.bool (C.any p))) []:=by
 have u:=J4 hl hp;rw[<- kF p C 0 (by omega)];refine Cl.ap rfl Tryz.func67 rfl rfl rfl ?_;obtain⟨n,v⟩:∃n,bB p C 0=n:=⟨_,rfl⟩;rw[v]at u⊢;exact ah
def J7{C:List Int}{p:Int->Bool}{c1 c2 y:AV}(hl:C.length<=140737488351232)(hp:∀x∈C,Cl aj 66 [.t (.int .i64 x),.t c1,.t c2,.t y] [] (.t (.bool (p x))) []):Cl aj 90 [.t (aD C),.t (.fn (.func 66) 0 [c1,c2,y])] [] (.t (.int .i64 (bB p C 0))) []:=by
 have D:=aW C;refine Cl.ap rfl Tryz.func90 rfl rfl rfl ?_;refine aq ?_;refine az.ind (fun q:Nat=>[(8,.t (.int .i64 (q:Int)))]) (fun q=>q<=C.length/\bB p C 0=bB p (C.drop q) q) (fun q=>C.length - q) 0 rfl (by simp) (fun q G=>?_);obtain⟨h1,h2⟩:=G;rw[h2];rcases Nat.lt_or_ge q C.length with h3|h3
 ·
  obtain⟨e,u⟩:=am h3;have I:=bg u;have v:=hp e (List.mem_of_getElem? u);rw[drop_at u,ly];obtain⟨b,z⟩:∃b,p e=b:=⟨_,rfl⟩;rw[z]at v⊢
  cases b with
  |true=>
   exact ah
  |false=>
   exact ah
 ·
  rw[List.drop_of_length_le h3];exact ah
def Iv{C:List Int}{p:Int->Bool}{c1 c2 u:AV}(hl:C.length<=140737488351232)(hp:∀x∈C,Cl aj 66 [.t (.int .i64 x),.t c1,.t c2,.t u] [] (.t (.bool (p x))) []):Cl aj 42 [.t (aD C),.t (.fn (.func 66) 0 [c1,c2,u])] [] (.t (.bool (C.any p))) []:=by
 have v:=J7 hl hp;rw[<- kF p C 0 (by omega)];refine Cl.ap rfl Tryz.func42 rfl rfl rfl ?_;obtain⟨n,y⟩:∃n,bB p C 0=n:=⟨_,rfl⟩;rw[y]at v⊢;exact ah
def J6{C:List Mem}{p:Mem->Bool}{c1 c2:AV}(hl:C.length<=140737488351232)(hp:∀x∈C,Cl aj 68 [.t (.agg (g_ x)),.t c1,.t c2] [] (.t (.bool (p x))) []):Cl aj 109 [.t (.arr (cM C)),.t (.fn (.func 68) 0 [c1,c2])] [] (.t (.int .i64 (bB p C 0))) []:=by
 have z:=lG C;refine Cl.ap rfl Tryz.func109 rfl rfl rfl ?_;refine aq ?_;refine az.ind (fun q:Nat=>[(8,.t (.int .i64 (q:Int)))]) (fun q=>q<=C.length/\bB p C 0=bB p (C.drop q) q) (fun q=>C.length - q) 0 rfl (by simp) (fun q D=>?_);obtain⟨h1,h2⟩:=D;rw[h2];rcases Nat.lt_or_ge q C.length with h3|h3
 ·
  obtain⟨e,u⟩:=am h3;have G:=i_ u;have v:=hp e (List.mem_of_getElem? u);rw[drop_at u,ly];obtain⟨b,y⟩:∃b,p e=b:=⟨_,rfl⟩;rw[y]at v⊢
  cases b with
  |true=>
   exact ah
  |false=>
   exact ah
 ·
  rw[List.drop_of_length_le h3];exact ah
def Iu{C:List Mem}{p:Mem->Bool}{c1 c2:AV}(hl:C.length<=140737488351232)(hp:∀x∈C,Cl aj 68 [.t (.agg (g_ x)),.t c1,.t c2] [] (.t (.bool (p x))) []):Cl aj 67 [.t (.arr (cM C)),.t (.fn (.func 68) 0 [c1,c2])] [] (.t (.bool (C.any p))) []:=by
 have u:=J6 hl hp;rw[<- kF p C 0 (by omega)];refine Cl.ap rfl Tryz.func67 rfl rfl rfl ?_;obtain⟨n,v⟩:∃n,bB p C 0=n:=⟨_,rfl⟩;rw[v]at u⊢;exact ah
def Cx{f:Nat}{xs:List AV}{r:SV×Fr}(h0:sJ f xs=none)(h:mo f xs=some r):aj.ext f xs=some r:=by
 show(match sJ f xs with|some r=>some r|none=>mo f xs)=_
 rw[h0,h]
def mulL(x y:Int)(h:decide (0<=x/\x <18446744073709551616/\0<=y/\y <18446744073709551616)=true):mo 85 [.int .u64 x,.int .u64 y]=some (.aN [.t (.int .u64 ((x.toNat*y.toNat/18446744073709551616:Nat):Int)),.t (.int .u64 ((x.toNat*y.toNat %18446744073709551616:Nat):Int))],[]):=by
 unfold mo;simp only[Nat.beq_refl,h,Bool.and_self]
def DT{n:Nat}(h:n<=216):((((1:Int).toNat*((n:Nat):Int).toNat/18446744073709551616:Nat):Int)=0)/\((((1:Int).toNat*((n:Nat):Int).toNat %18446744073709551616:Nat):Int)=n):=by
 have v:((n:Nat):Int).toNat=n:=Int.toNat_natCast n;have u:(1:Int).toNat=1:=rfl;rw[v,u,Nat.one_mul];exact⟨by rw[Nat.div_eq_of_lt (by omega)];rfl,by rw[Nat.mod_eq_of_lt (by omega)]⟩
def LS{n:Nat}(h:n<=216):decide ((0:Int)<=1/\(1:Int)<18446744073709551616/\0<=(n:Int)/\(n:Int)<18446744073709551616)=true:=decide_eq_true (by omega)
def DS{n:Nat}(h:n<=216):Cl aj 85 [.t (.int .u64 1),.t (.int .u64 (n:Int))] [] (.aN [.t (.int .u64 0),.t (.int .u64 (n:Int))]) []:=by
 have k:=mulL 1 (n:Int) (LS h);rw[(DT h).1,(DT h).2]at k;exact Cl.ext (xs:=[.int .u64 1,.int .u64 (n:Int)]) rfl rfl (Cx rfl k)
def LP(fr:Fr)(m n:Int):gZ aj.P fr 169 (.t (.int .i64 m)) (.t (.int .i64 n))=match decide (0<=m)&&decide (m<=n)&&Nat.ble (n.toNat*16) 281474976710656&&Nat.ble n.toNat 140737488351232 with
  |true=>some (.ls fr.length,fr++[.row false false 2 (List.replicate m.toNat [.int .i64 0,.int .i64 0])],[])
  |false=>none:=by kernel_rfl
def LO{fr:Fr}{n:Nat}(h:n<=1000):gZ aj.P fr 169 (.t (.int .i64 (n:Int))) (.t (.int .i64 (n:Int)))=some (.ls fr.length,fr++[.row false false 2 (List.replicate n [.int .i64 0,.int .i64 0])],[]):=by
 have e:(decide (0<=(n:Int))&&decide ((n:Int)<=n)&&Nat.ble ((n:Int).toNat*16) 281474976710656&&Nat.ble (n:Int).toNat 140737488351232)=true:=by
  rw[Int.toNat_natCast];have h1:Nat.ble (n*16) 281474976710656=true:=by rw[Nat.ble_eq];omega
  have h2:Nat.ble n 140737488351232=true:=by rw[Nat.ble_eq];omega
  rw[h1,h2];simp
 rw[LP,e];simp
def Fx:eQ aj.P 169=some (145,2,16):=by kernel_rfl
def BV{P:Program}{t T sz u r a n:Nat}{fr:Fr}{y:SV}{tch:Bool}{es zs:List (List AV)}(hr:eQ P t=some (T,sz,u))(hb:fr[r]?=some (.row false tch sz es))(hy:gO fr y=some zs)(hn:fu sz zs=true)(hl:a+n<=es.length):jr P fr t (.lv r sz a n) y=some (.t (.int .i64 ((Nat.min zs.length n:Nat):Int)),fr.set r (.row false tch sz (es.take a++zs.take n++es.drop (a+Nat.min zs.length n))),[]):=by
 unfold jr;have h1:Nat.ble (a+n) es.length=true:=by rw[Nat.ble_eq];exact hl
 simp only[hr,hy,hn,Nat.beq_refl];unfold nW;simp only[hb,Nat.beq_refl,h1,Bool.and_self]
def BU{P:Program}{t T sz u r:Nat}{fr:Fr}{y:SV}{tch:Bool}{es zs:List (List AV)}(hr:eQ P t=some (T,sz,u))(hb:fr[r]?=some (.row false tch sz es))(hy:gO fr y=some zs)(hn:fu sz zs=true):jr P fr t (.ls r) y=some (.t (.int .i64 ((Nat.min zs.length es.length:Nat):Int)),fr.set r (.row false tch sz (es.take 0++zs.take es.length++es.drop (0+Nat.min zs.length es.length))),[]):=by
 unfold jr;have h1:Nat.ble (0+es.length) es.length=true:=by rw[Nat.ble_eq];omega
 simp only[hr,hy,hn];simp only[hb];unfold nW;simp only[hb,Nat.beq_refl,h1,Bool.and_self]
def zi(l:List (Int×Int)):fu 2 (bO l)=true:=by
 unfold fu bO;rw[List.all_eq_true];intro v u;obtain⟨x,_,rfl⟩:=List.mem_map.1 u;rfl
def dJ(x:Int×Int)(N m:Nat):List (List AV):=bO (List.replicate m x++List.replicate (N - m) (0,0))
def E_{x:Int×Int}{N m:Nat}(h:m<=N):(dJ x N m).length=N:=by unfold dJ;rw[lQ];simp;omega
def NT{x:Int×Int}{N:Nat}:List.replicate N [AV.int .i64 0,.int .i64 0]=dJ x N 0:=by unfold dJ bO;simp
def NU{x:Int×Int}{N:Nat}:dJ x N N=bO (List.replicate N x):=by unfold dJ;simp
def Fb{x:Int×Int}{N m k:Nat}(h:k<=m):(dJ x N m).take k=bO (List.replicate k x):=by
 unfold dJ bO;rw[<- List.map_take,List.take_append_of_le_length (by simpa using h),List.take_replicate,Nat.min_eq_left h]
def Fa{x:Int×Int}{N m k:Nat}(hk:m+k<=N):(dJ x N m).take m++bO (List.replicate k x)++(dJ x N m).drop (m+k)=dJ x N (m+k):=by
 rw[Fb (Nat.le_refl _)];unfold dJ bO;rw[<- List.map_drop,<- List.map_append,<- List.map_append];congr 1;rw[List.replicate_append_replicate];congr 1;rw[List.drop_append];simp;omega
def PP{x:Int×Int}{m k:Nat}(h:k<=m):(bO (List.replicate m x)).take k=bO (List.replicate k x):=by
 unfold bO;rw[<- List.map_take,List.take_replicate,Nat.min_eq_left h]
def Iz{x:Int×Int}{N:Nat}(h1:1<=N)(hN:N<=216):Cl aj 139 [.t (.arr [[.int .i64 x.1,.int .i64 x.2]]),.t (.int .i64 (N:Int))] [] (.ls 0) [.row false false 2 (bO (List.replicate N x))]:=by
 have V:gZ aj.P [] 169 (.t (.int .i64 (N:Int))) (.t (.int .i64 (N:Int)))=some (.ls 0,[.row false false 2 (dJ x N 0)],[]):=by
  rw[<- NT];exact LO (fr:=[]) (by omega)
 have km:=DS hN;rw[<- NU (x:=x)]
 have J:jr aj.P [.row false false 2 (dJ x N 0)] 169 (.ls 0) (.t (.arr [[.int .i64 x.1,.int .i64 x.2]]))=some (.t (.int .i64 ((1:Nat):Int)),[.row false false 2 (dJ x N 1)],[]):=by
  have D:gO [.row false false 2 (dJ x N 0)] (.t (.arr [[.int .i64 x.1,.int .i64 x.2]]))=some (bO (List.replicate 1 x)):=rfl;rw[BU Fx rfl D (zi _),E_ (Nat.zero_le _)];have y:(bO (List.replicate 1 x)).length=1:=rfl;have e3:Nat.min 1 N=1:=Nat.min_eq_left h1;have G:(bO (List.replicate 1 x)).take N=bO (List.replicate 1 x):=List.take_of_length_le (by rw[y];exact h1);have I:=Fa (x:=x) (N:=N) (m:=0) (k:=1) (by omega);rw[y,e3,G,I];rfl
 refine Cl.ap rfl Tryz.func139 rfl rfl rfl ?_
 repeat'(first
|(refine a8 ?_)
|(refine aw ?_)
|((with_reducible apply aa.av);(case hW=>exact rfl);(case hx=>exact ae))
|((with_reducible apply aa.u0);(case hx=>first
|((with_reducible apply af.BX);(case hx|hs|hd=>exact rfl);(case h=>omega))
|((with_reducible apply af.BW);(case hx|hs|hd=>exact rfl);(case h=>omega))
|((with_reducible apply af.dY);(case hs=>exact fun _=>rfl);(case hl|hc|hd=>exact rfl);(case hm=>exact V);(case hf=>exact leq))
|((with_reducible apply af.uL);(case hs=>exact fun _=>rfl);(case ha|ht|hx|hy=>exact rfl);(case hm=>exact J);(case hf=>exact leq))
|(exact ai km)
|exact ae))
|fail)
 apply ac.cR
 case ho=>exact rfl
 case hp=>exact rfl
 case hl=>exact rfl
 case hs=>exact slt
 refine az.c8 (fun m:Nat=>[(8,.t (.int .i64 (m:Int)))]) (fun m=>[.row false false 2 (dJ x N m)]) (fun m=>1<=m/\m<=N) (fun m=>N - m) 1 rfl rfl ⟨by omega,h1⟩ (fun m hm=>?_);obtain⟨g1,g2⟩:=hm;have v:=E_ (x:=x) g2;have Z:(List.replicate m x++List.replicate (N - m) ((0,0):Int×Int)).length=N:=by simp;omega
 rcases Nat.lt_or_ge m N with g3|g3
 ·
  obtain⟨k,z⟩:∃k,Nat.min m (N - m)=k:=⟨_,rfl⟩
  have ab:k<=m/\k<=N - m/\1<=k:=by
   rw[<- z];have h1:=Nat.min_def (n:=m) (m:=N - m);have h2:Nat.min m (N - m)=min m (N - m):=rfl;rw[h2];omega
  have v1:jg 0 2 0 (dJ x N m).length (dJ x N m).length (some (.t (.int .i64 (m:Int)))) none=some (.lv 0 2 m (N - m)):=by rw[v];exact GK (by omega) g3
  have v2:jg 0 2 0 (dJ x N m).length (dJ x N m).length none (some (.t (.int .i64 (m:Int))))=some (.lv 0 2 0 m):=by rw[v];exact GJ g3
  have U:jr aj.P [.row false false 2 (dJ x N m)] 169 (.lv 0 2 m (N - m)) (.lv 0 2 0 m)=some (.t (.int .i64 (k:Int)),[.row false false 2 (dJ x N (m+k))],[]):=by
   have D:gO [.row false false 2 (dJ x N m)] (.lv 0 2 0 m)=some (bO (List.replicate m x)):=by
    show kQ [.row false false 2 (dJ x N m)] 0 2 0 m=_
    have hb:Nat.ble (0+m) (dJ x N m).length=true:=by rw[Nat.ble_eq,v];omega
    unfold kQ;simp only[List.getElem?_cons_zero,Nat.beq_refl,hb,Bool.and_self,List.drop_zero,Fb (Nat.le_refl m)]
   rw[BV Fx rfl D (zi _) (by rw[v];omega)];have y:(bO (List.replicate m x)).length=m:=by rw[lQ];simp
   have G:(bO (List.replicate m x)).take (N - m)=bO (List.replicate k x):=by
    rcases Nat.le_total m (N - m)with h|h
    ·have:k=m:=by rw[<- z];exact Nat.min_eq_left h
     rw[this];exact List.take_of_length_le (by rw[y];exact h)
    ·have:k=N - m:=by rw[<- z];exact Nat.min_eq_right h
     rw[this];exact PP h
   have I:=Fa (x:=x) (N:=N) (m:=m) (k:=k) (by omega);rw[y,z,G,I];rfl
  repeat'(first
|((with_reducible apply aa.aF);(case hp=>exact ak))
|(refine aw ?_)
|((with_reducible apply ay.u);(case hfl=>kernel_rfl);(case hx=>first
|((with_reducible apply af.wx);(case he=>first|(with_reducible exact na)|(with_reducible exact el1)|(with_reducible exact nc)|(with_reducible exact el3)|(with_reducible exact el4)|(with_reducible exact ng)|(with_reducible exact el6)|(with_reducible exact el7)|exact rfl);(case hx|hl|hh|hb=>exact rfl);(case hv=>exact v1))
|((with_reducible apply af.wx);(case he=>first|(with_reducible exact na)|(with_reducible exact el1)|(with_reducible exact nc)|(with_reducible exact el3)|(with_reducible exact el4)|(with_reducible exact ng)|(with_reducible exact el6)|(with_reducible exact el7)|exact rfl);(case hx|hl|hh|hb=>exact rfl);(case hv=>exact v2))
|((with_reducible apply af.uL);(case hs=>exact fun _=>rfl);(case ha|ht|hx|hy=>exact rfl);(case hm=>exact U);(case hf=>exact leq))
|exact ae))
|((with_reducible apply aa.u0);(case hx=>exact ae))
|fail)
  exact⟨m+k,by rw[Int.natCast_add];rfl,rfl,⟨by omega,by omega⟩,by omega⟩
 ·
  obtain rfl:m=N:=by omega
  exact ah
def D7{S C:List Int}(hs:ck S=true)(h3:C.all (cr S)=true)(h1:C.length<=3):bE S C=dx S C:=zn hs (by unfold iz;rw[h3,decide_eq_true h1];rfl)
def Ay{k:Int}{s:Bool}(h:bz k≠s):bz k=!s:=by
 cases s <;>cases u:bz k <;>simp_all
def IA{S:List Int}{L:List Tb}(s:Bool)(hv:bJ S L=true):Cl aj 100 [.t (aD S),.t (.arr (bC L)),.t (.bool s)] [] (.ls 0) [.row false false 2 (bO (bW S L s))]:=by
 have ag:=aW S;have ad:=fT L;have ab:=kK hv;have v:=tf hv
 have kv:=xF (S:=S) (L:=L) (by omega) (by omega) (fun t ht=>by
  obtain⟨k,hk⟩:=List.mem_iff_getElem?.1 ht;have:=(lD hv hk).1;omega)
 have hr:bW S L s=L.flatMap (eC S s):=by unfold bW;rw[hv];rfl
 rw[hv]at kv;rw[hr];refine Cl.ap rfl Tryz.func100 rfl rfl rfl ?_;refine aq ?_;refine az.c8 (fun x:Nat×Bool=>[(7,.ls 0),(16,.t (.int .i64 (x.1:Int)))]) (fun x=>[.row false x.2 2 (bO ((L.take x.1).flatMap (eC S s)))]) (fun x=>x.1<=L.length) (fun x=>L.length - x.1) (0,false) rfl rfl (by simp) (fun x hq=>?_);obtain⟨q,D⟩:=x;dsimp only at hq⊢;rcases Nat.lt_or_ge q L.length with h3|h3
 ·
  obtain⟨t,ht⟩:=am h3;have hc:=fB ht;obtain⟨G,c2,I⟩:=lD hv ht;have ks:=uM t;have U:=nC v I G;have V:=uN (S:=S) (C:=t.au) (by omega) v I G;have al:=EW S s (L.take q);have an:(L.take q).length<=12:=by simp;omega
  obtain⟨P,hP⟩:∃P,(dx S t.au).toNat=P:=⟨_,rfl⟩;have J:dx S t.au=(P:Int):=by omega
  rw[J]at V U;have kr:=Iz (x:=(t.lo,t.hi)) (N:=P) (by omega) (by omega);by_cases hs:bz t.kind=s
  ·
   have z:bO ((L.take q).flatMap (eC S s))++bO (List.replicate P (t.lo,t.hi))=bO ((L.take (q+1)).flatMap (eC S s)):=by
    rw[EM,sQ ht];congr 2;unfold eC;rw[if_pos hs,D7 v I G,hP]
   have y:cn ((bO ((L.take q).flatMap (eC S s))).length+(bO (List.replicate P (t.lo,t.hi))).length) 16=true:=by
    rw[lQ,lQ,List.length_replicate];exact oA (by omega) (by decide)
   have Z:=zi (List.replicate P (t.lo,t.hi));rw[hs]at ks;cases s
   ·
    repeat'(first
|(with_reducible first|apply ac.seq|apply ac.block)
|((with_reducible apply ac.text);(try case hm=>exact rfl))
|((with_reducible apply ac.drawn);(case hm=>exact rfl))
|(with_reducible first|apply ac.skip|apply aH)
|((with_reducible apply ac.aR);(case hc=>exact rfl))
|((with_reducible apply aa.aF);(case hp=>exact ak))
|(with_reducible first|apply aa.aB|apply aa.dF)
|((with_reducible apply aa.u);(case hx=>((with_reducible apply af.ei);(case hs=>exact fun _=>rfl);(case ha|ht=>exact rfl);(case hr=>first|(with_reducible exact ec)|(with_reducible exact rw1)|(with_reducible exact ed)|(with_reducible exact rw3)|(with_reducible exact rw4)|exact rfl);(case hx|hy|hn|hb=>exact rfl);(case hok=>exact Z);(case hlen=>exact y);(case hv=>exact z);(case hk=>exact ez);(case hf=>exact leq))))
|((with_reducible apply aa.u0);(case hx=>first
|((with_reducible apply af.jo (es:=[[.int .i64 t.lo,.int .i64 t.hi]]));(case hw=>exact rfl);(case ho=>kernel_rfl);(case h=>kernel_rfl))
|(exact ai ks)
|(exact ai V)
|(exact zr kr)
|exact ae))
|fail)
    exact⟨(q+1,true),rfl,rfl,by dsimp only;omega,by dsimp only;omega⟩
   ·
    repeat'(first
|(with_reducible first|apply ac.seq|apply ac.block)
|((with_reducible apply ac.text);(try case hm=>exact rfl))
|((with_reducible apply ac.drawn);(case hm=>exact rfl))
|(with_reducible first|apply ac.skip|apply aH)
|((with_reducible apply ac.aR);(case hc=>exact rfl))
|((with_reducible apply aa.aF);(case hp=>exact ak))
|(with_reducible first|apply aa.aB|apply aa.dF)
|((with_reducible apply aa.u);(case hx=>((with_reducible apply af.ei);(case hs=>exact fun _=>rfl);(case ha|ht=>exact rfl);(case hr=>first|(with_reducible exact ec)|(with_reducible exact rw1)|(with_reducible exact ed)|(with_reducible exact rw3)|(with_reducible exact rw4)|exact rfl);(case hx|hy|hn|hb=>exact rfl);(case hok=>exact Z);(case hlen=>exact y);(case hv=>exact z);(case hk=>exact ez);(case hf=>exact leq))))
|((with_reducible apply aa.u0);(case hx=>first
|((with_reducible apply af.jo (es:=[[.int .i64 t.lo,.int .i64 t.hi]]));(case hw=>exact rfl);(case ho=>kernel_rfl);(case h=>kernel_rfl))
|(exact ai ks)
|(exact ai V)
|(exact zr kr)
|exact ae))
|fail)
    exact⟨(q+1,true),rfl,rfl,by dsimp only;omega,by dsimp only;omega⟩
  ·
   rw[EU ht hs];rw[Ay hs]at ks;cases s
   ·
    refine aq ?_;exact⟨(q+1,D),rfl,rfl,by dsimp only;omega,by dsimp only;omega⟩
   ·
    refine aq ?_;exact⟨(q+1,D),rfl,rfl,by dsimp only;omega,by dsimp only;omega⟩
 ·
  rw[List.take_of_length_le h3];exact ah
def yB{S:List Int}{s:Bool}{c:Int}{t:Tb}(u:ck S=true)(c1:t.au.length<=3)(v:t.au.all (cr S)=true):eO S s c t=true↔bz t.kind=s/\0<=c/\0<=c - t.first/\c - t.first <dx S t.au:=by
 rw[sW,D7 u v c1]
def ID{S:List Int}{L:List Tb}{s:Bool}{c:Int}(hv:bJ S L=true)(hc:c<=9223372036854775807):match fe S L s c with
  |some (i,t)=>Cl aj 192 [.t (aD S),.t (.arr (bC L)),.t (.bool s),.t (.int .i64 c)] [] (.aN [.t (.int .i64 (i:Int)),.ls 0,.t (.bool true)]) [.row false false 1 (aL (pV S t.au (c - t.first)))]
  |none=>Cl aj 192 [.t (aD S),.t (.arr (bC L)),.t (.bool s),.t (.int .i64 c)] [] (.aN [.t (.int .i64 0),.nil,.t (.bool false)]) []:=by
 have a1:=aW S;have aY:=fT L;have aT:=kK hv;have D:=tf hv
 have kv:=xF (S:=S) (L:=L) (by omega) (by omega) (fun t ht=>by
  obtain⟨k,hk⟩:=List.mem_iff_getElem?.1 ht;have:=(lD hv hk).1;omega)
 have hr:fe S L s c=fK (eO S s c) 0 L:=by unfold fe;rw[hv];rfl
 rw[hv]at kv;rw[hr];by_cases h0:c <0
 ·
  have hn:fK (eO S s c) 0 L=none:=by
   cases hf:fK (eO S s c) 0 L with
   |none=>rfl
   |some r=>
    have:=yn hf;rw[sW]at this;omega
  rw[hn];refine Cl.ap rfl Tryz.func192 rfl rfl rfl ?_;exact ah
 ·
  cases hf:fK (eO S s c) 0 L with
  |none=>
   show Cl aj 192 _ [] _ []
   refine Cl.ap rfl Tryz.func192 rfl rfl rfl ?_;refine aq ?_;refine az.ind (fun q:Nat=>[(27,.t (.int .i64 (q:Int)))]) (fun q=>q<=L.length/\fK (eO S s c) q (L.drop q)=none) (fun q=>L.length - q) 0 rfl ⟨by omega,hf⟩ (fun q hq=>?_);obtain⟨h1,h2⟩:=hq;rcases Nat.lt_or_ge q L.length with h3|h3
   ·
    obtain⟨t,ht⟩:=am h3;have aR:=fB ht;obtain⟨c1,c2,c3⟩:=lD hv ht;have y:=uM t;have kw:=uN (S:=S) (C:=t.au) (by omega) D c3 c1;obtain⟨f0,f1⟩:=vA hv ht;rw[u5 ht]at h2
    cases hi:eO S s c t with
    |true=>rw[hi]at h2;cases h2
    |false=>
     rw[hi]at h2;have V:¬(bz t.kind=s/\0<=c/\0<=c - t.first/\c - t.first <dx S t.au):=fun h=>by rw[(yB D c1 c3).2 h]at hi;cases hi
     obtain⟨P,hP⟩:∃P,dx S t.au=P:=⟨_,rfl⟩;rw[hP]at kw V;by_cases hs:bz t.kind=s
     ·
      rw[hs]at y;cases s <;>
      repeat'(first
|((with_reducible apply aa.aF);(case hp=>exact ak))
|((with_reducible apply aa.bi)<;>intro hq)
|(refine aw ?_)
|((with_reducible apply aa.av);(case hW=>exact rfl);(case hx=>first
|(exact ai kw)
|exact ae))
|((with_reducible apply aa.u0);(case hx=>first
|(exact ai y)
|exact ae))
|fail)
      all_goals first
       |exact⟨q+1,rfl,rfl,⟨by omega,h2⟩,by omega⟩
       |(exfalso;apply V;exact⟨hs,by omega,by omega,by omega⟩)
     ·
      rw[Ay hs]at y;cases s <;>
      repeat'(first
|((with_reducible apply aa.aF);(case hp=>exact ak))
|(refine aw ?_)
|((with_reducible apply aa.u0);(case hx=>first
|(exact ai y)
|exact ae))
|fail)
      all_goals exact⟨q+1,rfl,rfl,⟨by omega,h2⟩,by omega⟩
   ·
    exact ah
  |some it=>
   obtain⟨i,u⟩:=it;show Cl aj 192 _ [] _ _
   refine Cl.ap rfl Tryz.func192 rfl rfl rfl ?_;refine aq ?_;refine az.ind (fun q:Nat=>[(27,.t (.int .i64 (q:Int)))]) (fun q=>q<=L.length/\fK (eO S s c) q (L.drop q)=some (i,u)) (fun q=>L.length - q) 0 rfl ⟨by omega,hf⟩ (fun q hq=>?_);obtain⟨h1,h2⟩:=hq;rcases Nat.lt_or_ge q L.length with h3|h3
   ·
    obtain⟨t,ht⟩:=am h3;have aR:=fB ht;obtain⟨c1,c2,c3⟩:=lD hv ht;have y:=uM t;have kw:=uN (S:=S) (C:=t.au) (by omega) D c3 c1;have aA:=nC D c3 c1;obtain⟨f0,f1⟩:=vA hv ht;rw[u5 ht]at h2
    cases hi:eO S s c t with
    |true=>
     rw[hi,if_pos rfl]at h2;obtain⟨rfl,rfl⟩:q=i/\t=u:=by cases h2;exact⟨rfl,rfl⟩
     have ad:=(yB D c1 c3).1 hi;obtain⟨P,hP⟩:∃P,dx S t.au=P:=⟨_,rfl⟩;rw[hP]at kw ad aA;obtain⟨y1,y2,y3,y4⟩:=ad;rw[y1]at y;have ax:gZ aj.P [.box false 147 ((gC t).map .t)] 22 (.t (.int .i64 (t.au.length:Int))) (.t (.int .i64 (t.au.length:Int)))=some (.ls 1,[.box false 147 ((gC t).map .t),.row false false 1 (aL (List.replicate t.au.length 0))],[]):=DP (fr:=[.box false 147 ((gC t).map .t)]) (n:=t.au.length) (by omega);have ab:(List.replicate t.au.length (0:Int)).length=t.au.length:=List.length_replicate;have aX:=aW t.au;cases s
     ·
      repeat'(first
|(refine a8 ?_)
|(refine aw ?_)
|((with_reducible apply aa.av);(case hW=>exact rfl);(case hx=>first
|(exact ai kw)
|exact ae))
|((with_reducible apply aa.u0);(case hx=>first
|((with_reducible apply af.dY);(case hs=>exact fun _=>rfl);(case hl|hc|hd=>exact rfl);(case hm=>exact ax);(case hf=>exact leq))
|(exact ai y)
|exact ae))
|fail)
      apply ac.cR
      case ho=>exact rfl
      case hp=>exact rfl
      case hl=>exact rfl
      case hs=>exact slt
      refine az.c8 (fun x:Nat×Int×List Int=>[(13,.t (.int .i64 x.2.1)),(15,.t (.int .i64 ((x.1:Int) - 1)))]) (fun x=>[.box false 147 ((gC t).map .t),.row false false 1 (aL x.2.2)]) (fun x=>x.1<=t.au.length/\0<=x.2.1/\x.2.1<=1000/\x.2.2.length=t.au.length/\ja S t.au x.1 x.2.1 x.2.2=pV S t.au (c - t.first)) (fun x=>x.1) (t.au.length,c - t.first,List.replicate t.au.length 0) (by simp only[ab];rfl) rfl ⟨by dsimp only;omega,by dsimp only;omega,by dsimp only;omega,by simp,rfl⟩ (fun x hx=>?_);obtain⟨j,k,r⟩:=x;dsimp only at hx⊢;obtain⟨n1,n2,n3,n4,n5⟩:=hx
      cases j with
      |zero=>
       rw[<- n5];exact ah
      |succ j=>
       obtain⟨c',G⟩:=am (xs:=t.au) (k:=j) (by omega);have aB:=bg G;have I:=List.all_eq_true.1 c3 c' (List.mem_of_getElem? G);obtain⟨d1,d2⟩:=uJ D I;simp only[cr,Bool.and_eq_true,decide_eq_true_eq]at I;obtain⟨d3,d4⟩:=I;obtain⟨z,J⟩:=am (xs:=S) (k:=c'.toNat) (by omega);have aM:=bg J;rw[fL J]at d1 d2;obtain⟨v,ao⟩:=am (xs:=r) (k:=j) (by omega);have an:=bg ao;have aG:=aW r;have ej:(((j+1:Nat):Int) - 1)=(j:Int):=by omega
       rw[ej];have ag:(aL r)[((j:Nat):Int).toNat]?=some [.int .i64 v]:=by rw[Int.toNat_natCast];exact an
       have al:(aL r).set ((j:Nat):Int).toNat [.int .i64 (k.tmod z)]=aL (r.set j (k.tmod z)):=by rw[Int.toNat_natCast];simp[aL,List.map_set]
       have hd:0<=k.tdiv z/\k.tdiv z<=k:=by
        rw[Int.tdiv_eq_ediv_of_nonneg n2];exact⟨Int.ediv_nonneg n2 (by omega),Int.ediv_le_self _ n2⟩
       have Z:ja S t.au (j+1) k r=ja S t.au j (k.tdiv z) (r.set j (k.tmod z)):=by
        have e1:t.au.getD j 0=c':=fL G;have e2:S.getD c'.toNat 0=z:=fL J;rw[ja,e1,e2]
       obtain⟨kd,U⟩:∃kd,k.tdiv z=kd:=⟨_,rfl⟩;rw[U]at hd Z
       repeat'(first
|((with_reducible apply aa.aF);(case hp=>exact ak))
|(refine aw ?_)
|((with_reducible apply ay.u);(case hfl=>kernel_rfl);(case hx=>first
|((with_reducible apply af.nE);(case hx|hy=>exact rfl);(case hn=>omega);(case h=>exact rfl))
|((with_reducible apply af.iI);(case hx|hy=>exact rfl);(case hn=>omega);(case h=>exact U);(case hb=>omega))
|((with_reducible apply af.Av);(case hs=>exact fun _=>rfl);(case ha|hy|ht|hone=>exact rfl);(case hn=>kernel_rfl);(case hb=>exact rfl);(case hk=>exact ag);(case hj=>exact rfl);(case hv=>exact al);(case hf=>exact leq))
|exact ae))
|((with_reducible apply aa.u0);(case hx=>exact ae))
|fail)
       exact⟨(j,kd,r.set j (k.tmod z)),rfl,rfl,⟨by dsimp only;omega,by dsimp only;omega,by dsimp only;omega,by simp[n4],by dsimp only;rw[<- Z];exact n5⟩,by dsimp only;omega⟩
     ·
      repeat'(first
|(refine a8 ?_)
|(refine aw ?_)
|((with_reducible apply aa.av);(case hW=>exact rfl);(case hx=>first
|(exact ai kw)
|exact ae))
|((with_reducible apply aa.u0);(case hx=>first
|((with_reducible apply af.dY);(case hs=>exact fun _=>rfl);(case hl|hc|hd=>exact rfl);(case hm=>exact ax);(case hf=>exact leq))
|(exact ai y)
|exact ae))
|fail)
      apply ac.cR
      case ho=>exact rfl
      case hp=>exact rfl
      case hl=>exact rfl
      case hs=>exact slt
      refine az.c8 (fun x:Nat×Int×List Int=>[(13,.t (.int .i64 x.2.1)),(15,.t (.int .i64 ((x.1:Int) - 1)))]) (fun x=>[.box false 147 ((gC t).map .t),.row false false 1 (aL x.2.2)]) (fun x=>x.1<=t.au.length/\0<=x.2.1/\x.2.1<=1000/\x.2.2.length=t.au.length/\ja S t.au x.1 x.2.1 x.2.2=pV S t.au (c - t.first)) (fun x=>x.1) (t.au.length,c - t.first,List.replicate t.au.length 0) (by simp only[ab];rfl) rfl ⟨by dsimp only;omega,by dsimp only;omega,by dsimp only;omega,by simp,rfl⟩ (fun x hx=>?_);obtain⟨j,k,r⟩:=x;dsimp only at hx⊢;obtain⟨n1,n2,n3,n4,n5⟩:=hx
      cases j with
      |zero=>
       rw[<- n5];exact ah
      |succ j=>
       obtain⟨c',G⟩:=am (xs:=t.au) (k:=j) (by omega);have aB:=bg G;have I:=List.all_eq_true.1 c3 c' (List.mem_of_getElem? G);obtain⟨d1,d2⟩:=uJ D I;simp only[cr,Bool.and_eq_true,decide_eq_true_eq]at I;obtain⟨d3,d4⟩:=I;obtain⟨z,J⟩:=am (xs:=S) (k:=c'.toNat) (by omega);have aM:=bg J;rw[fL J]at d1 d2;obtain⟨v,ao⟩:=am (xs:=r) (k:=j) (by omega);have an:=bg ao;have aG:=aW r;have ej:(((j+1:Nat):Int) - 1)=(j:Int):=by omega
       rw[ej];have ag:(aL r)[((j:Nat):Int).toNat]?=some [.int .i64 v]:=by rw[Int.toNat_natCast];exact an
       have al:(aL r).set ((j:Nat):Int).toNat [.int .i64 (k.tmod z)]=aL (r.set j (k.tmod z)):=by rw[Int.toNat_natCast];simp[aL,List.map_set]
       have hd:0<=k.tdiv z/\k.tdiv z<=k:=by
        rw[Int.tdiv_eq_ediv_of_nonneg n2];exact⟨Int.ediv_nonneg n2 (by omega),Int.ediv_le_self _ n2⟩
       have Z:ja S t.au (j+1) k r=ja S t.au j (k.tdiv z) (r.set j (k.tmod z)):=by
        have e1:t.au.getD j 0=c':=fL G;have e2:S.getD c'.toNat 0=z:=fL J;rw[ja,e1,e2]
       obtain⟨kd,U⟩:∃kd,k.tdiv z=kd:=⟨_,rfl⟩;rw[U]at hd Z
       repeat'(first
|((with_reducible apply aa.aF);(case hp=>exact ak))
|(refine aw ?_)
|((with_reducible apply ay.u);(case hfl=>kernel_rfl);(case hx=>first
|((with_reducible apply af.nE);(case hx|hy=>exact rfl);(case hn=>omega);(case h=>exact rfl))
|((with_reducible apply af.iI);(case hx|hy=>exact rfl);(case hn=>omega);(case h=>exact U);(case hb=>omega))
|((with_reducible apply af.Av);(case hs=>exact fun _=>rfl);(case ha|hy|ht|hone=>exact rfl);(case hn=>kernel_rfl);(case hb=>exact rfl);(case hk=>exact ag);(case hj=>exact rfl);(case hv=>exact al);(case hf=>exact leq))
|exact ae))
|((with_reducible apply aa.u0);(case hx=>exact ae))
|fail)
       exact⟨(j,kd,r.set j (k.tmod z)),rfl,rfl,⟨by dsimp only;omega,by dsimp only;omega,by dsimp only;omega,by simp[n4],by dsimp only;rw[<- Z];exact n5⟩,by dsimp only;omega⟩
    |false=>
     rw[hi]at h2;have V:¬(bz t.kind=s/\0<=c/\0<=c - t.first/\c - t.first <dx S t.au):=fun h=>by rw[(yB D c1 c3).2 h]at hi;cases hi
     obtain⟨P,hP⟩:∃P,dx S t.au=P:=⟨_,rfl⟩;rw[hP]at kw V;by_cases hs:bz t.kind=s
     ·
      rw[hs]at y;cases s <;>
      repeat'(first
|((with_reducible apply aa.aF);(case hp=>exact ak))
|((with_reducible apply aa.bi)<;>intro hq)
|(refine aw ?_)
|((with_reducible apply aa.av);(case hW=>exact rfl);(case hx=>first
|(exact ai kw)
|exact ae))
|((with_reducible apply aa.u0);(case hx=>first
|(exact ai y)
|exact ae))
|fail)
      all_goals first
       |exact⟨q+1,rfl,rfl,⟨by omega,h2⟩,by omega⟩
       |(exfalso;apply V;exact⟨hs,by omega,by omega,by omega⟩)
     ·
      rw[Ay hs]at y;cases s <;>
      repeat'(first
|((with_reducible apply aa.aF);(case hp=>exact ak))
|(refine aw ?_)
|((with_reducible apply aa.u0);(case hx=>first
|(exact ai y)
|exact ae))
|fail)
      all_goals exact⟨q+1,rfl,rfl,⟨by omega,h2⟩,by omega⟩
   ·
    rw[CE h3]at h2;cases h2
end Go.Proofs.YtcgdbhlnkificaaGreatDoor
