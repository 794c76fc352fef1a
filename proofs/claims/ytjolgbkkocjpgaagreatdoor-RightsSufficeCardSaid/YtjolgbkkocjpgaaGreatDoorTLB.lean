/- Layouts as the code judges them,as contracts. No condition. -/
import Derived.Test.YtjolgbkkocjpgaaGreatDoorTM
import Derived.Test.YtjolgbkkocjpgaaGreatDoorTNC
import Derived.Test.YtjolgbkkocjpgaaGreatDoorTP
set_option linter.all false
namespace Go.Proofs.YtjolgbkkocjpgaaGreatDoor
open Go.RowKit
set_option maxRecDepth 100000
set_option maxHeartbeats 16000000
def Eb(s:ByteArray):Cl ah 135 [.t (.str s)] [] (.t (.bool (gE s))) []:=by
 rw[<- Ck s];generalize s.data.toList=l;have y:(bs l).size=l.length:=e9 l;have v:gE (bs l)=oU l:=by unfold gE;simp[bs]
 rw[v];rcases Nat.lt_or_ge 1000000 l.length with h|h
 ·
  have u:oU l=false:=by
   unfold oU;rw[decide_eq_false (show¬l.length<=16 by omega)]
   first|rfl|exact Bool.and_false _
  rw[u];refine Cl.aq rfl Tryz.func135 rfl rfl rfl ?_;exact ae
 ·exact MF h
def mP(L:List Tb)(q:Nat):List ByteArray:=(L.take q).map (·.name)
def Eh{L:List Tb}{q:Nat}{s:ByteArray}:((mP L q).any fun u=>decide (u=s))=(L.take q).any fun u=>decide (u.name=s):=by unfold mP;rw[List.any_map];rfl
def MT{L:List Tb}{q:Nat}(h:q<=L.length):(mP L q).length=q:=by unfold mP;simp;omega
def MU{L:List Tb}{q:Nat}{t:Tb}(h:L[q]?=some t):lc (mP L q)++[.str t.name]=lc (mP L (q+1)):=by unfold mP lc;rw[List.take_add_one,h];simp
def zW(S:List Int)(L:List Tb)(q:Nat):Fr:=[.map false (lc (mP L q)) (eh q),.box false 3 [.t (.int .i64 (bp S true (L.take q)))],.box false 3 [.t (.int .i64 (bp S false (L.take q)))]]
def yI{S:List Int}{L:List Tb}(hS:S.length<=140737488351232)(hL:L.length<=140737488351232)(hC:∀t∈L,t.av.length<=140737488351232):Cl ah 92 [.t (ay S),.t (.arr (bq L))] [] (.t (.bool (bQ S L))) []:=by
 rw[<- wj];have bi:=aO S;have bh:=fJ L;have kS:=JK (S:=S) (by omega);obtain⟨b1,U⟩:∃b,decide ((S.length:Int)<=4)=b:=⟨_,rfl⟩;obtain⟨b2,V⟩:∃b,decide ((L.length:Int)<=12)=b:=⟨_,rfl⟩;obtain⟨b3,an⟩:∃b,cx S=b:=⟨_,rfl⟩;have k3:=IC b1 b2 b3;rw[<- U,<- V]at k3;have e1:decide (S.length<=4)=b1:=by rw[<- U];simp;omega
 have e2:decide (L.length<=12)=b2:=by rw[<- V];simp;omega
 obtain⟨T,hT⟩:∃T,(aL (l9 S L) 0 (L.drop 0)&&(decide (bp S true L<=128)&&decide (bp S false L<=64)))=T:=⟨_,rfl⟩;have e0:tM S L=((b1&&(b2&&b3))&&T):=by rw[<- hT];unfold tM;rw[e1,e2,an];rfl
 rw[e0];rw[an]at kS;refine Cl.aq rfl Tryz.func92 rfl rfl rfl ?_
 cases hb:(b1&&(b2&&b3))with
 |false=>
  have k3:Cl ah 133 [.t (.arr [[.bool (decide ((S.length:Int)<=4))],[.bool (decide ((L.length:Int)<=12))],[.bool b3]])] [] (.t (.bool false)) []:=by rw[<- hb,<- U,<- V];exact k3
  repeat'(first
|(refine ar ?_)
|((with_reducible apply aa.u0);(case hx=>first
|((with_reducible apply ac.mv);(conv=>lhs;whnf);try exact rfl)
|((with_reducible apply ac.asg);(conv=>lhs;whnf);try exact rfl)
|((with_reducible apply ac.j_ (es:=[[.bool (decide ((S.length:Int)<=4))],[.bool (decide ((L.length:Int)<=12))],[.bool b3]]));(case hw=>exact rfl);(case ho=>kernel_rfl);(case h=>kernel_rfl))
|(exact ap kS)
|(exact ap k3)
|((with_reducible apply ac.len);(case ha|hy|ht|hs=>exact rfl);(case hn=>first|exact List.length_map _|exact rfl))
|exact ac.r fun _=>rfl))
|fail)
  exact⟨.inr rfl,rfl⟩
 |true=>
  have k3:Cl ah 133 [.t (.arr [[.bool (decide ((S.length:Int)<=4))],[.bool (decide ((L.length:Int)<=12))],[.bool b3]])] [] (.t (.bool true)) []:=by rw[<- hb,<- U,<- V];exact k3
  rw[Bool.and_eq_true,Bool.and_eq_true]at hb;obtain⟨a8,bb,bd⟩:=hb;have Z:cx S=true:=by rw[an,bd]
  have bf:L.length<=12:=by rw[bb]at e2;simpa using e2
  have h4:S.length<=4:=by rw[a8]at e1;simpa using e1
  rw[Bool.true_and,<- hT]
  repeat'(first
|(refine ar ?_)
|((with_reducible apply aa.u0);(case hx=>first
|((with_reducible apply ac.mv);(conv=>lhs;whnf);try exact rfl)
|((with_reducible apply ac.asg);(conv=>lhs;whnf);try exact rfl)
|((with_reducible apply ac.j_ (es:=[[.bool (decide ((S.length:Int)<=4))],[.bool (decide ((L.length:Int)<=12))],[.bool b3]]));(case hw=>exact rfl);(case ho=>kernel_rfl);(case h=>kernel_rfl))
|(exact ap kS)
|(exact ap k3)
|((with_reducible apply ac.len);(case ha|hy|ht|hs=>exact rfl);(case hn=>first|exact List.length_map _|exact rfl))
|((with_reducible apply ac.al);(case hs=>exact fun _=>rfl);(case hz=>exact rfl);(case hc=>exact leq);(case hn=>exact zS);(case hf=>exact leq))
|((with_reducible apply ac.G6);(case hs=>exact fun _=>rfl);(case ha|hy=>exact rfl);(case ht=>first|(with_reducible exact sz0)|(with_reducible exact eV)|(with_reducible exact nV)|(with_reducible exact sz3)|(with_reducible exact sz4)|(with_reducible exact sz5)|(with_reducible exact sz6)|(with_reducible exact sz7)|(with_reducible exact sz8)|(with_reducible exact sz9)|exact rfl);(case hv=>exact rfl);(case ho=>kernel_rfl);(case hb=>exact rfl);(case hc=>kernel_rfl);(case hd=>exact leq);(case hf=>exact leq))
|exact ac.r fun _=>rfl))
|fail)
  apply am.lK
  case ho=>exact rfl
  case hp=>exact rfl
  case hl=>exact rfl
  case hs=>exact slt
  refine ax.cA (fun q:Nat=>[(25,.t (.int .i64 (q:Int)))]) (fun q=>zW S L q) (fun q=>q<=L.length/\aL (l9 S L) 0 (L.drop 0)=aL (l9 S L) q (L.drop q)) (fun q=>L.length - q) 0 rfl rfl ⟨by omega,rfl⟩ (fun q hq=>?_);obtain⟨h1,h2⟩:=hq;rw[h2];rcases Nat.lt_or_ge q L.length with h3|h3
  ·
   obtain⟨t,ht⟩:=aj h3;have hc:=fo ht;have kn:=Eb t.name;have kw:=CM t.kind 0 5;have kc:=IU (S:=S) (C:=t.av) (by omega) (hC t (List.mem_of_getElem? ht));have kr:=JH t;have ks:=vn t;obtain⟨J,aB⟩:∃b,gE t.name=b:=⟨_,rfl⟩;obtain⟨a3,aD⟩:∃b,(decide (0<=t.kind)&&decide (t.kind<=5))=b:=⟨_,rfl⟩;obtain⟨a4,ai⟩:∃b,iH S t.av=b:=⟨_,rfl⟩;obtain⟨a5,aG⟩:∃b,r9 t=b:=⟨_,rfl⟩;have aX:l9 S L q t=((J&&(!((L.take q).any fun u=>decide (u.name=t.name))&&(a3&&(a4&&a5))))&&decide (t.first=bp S (bA t.kind) (L.take q))):=by unfold l9;rw[aB,aD,ai,aG]
   have v:=dB (p:=l9 S L) ht;have z:=dC (p:=l9 S L) ht;rw[aX]at v z;rw[aB]at kn;rw[aD]at kw;rw[ai]at kc;rw[aG]at kr;have hks:=MU ht;have hvs:=x_ q;unfold zW
   cases ha:(L.take q).any fun u=>decide (u.name=t.name)with
   |true=>
    obtain⟨j,hf,hj⟩:=zz (s:=t.name) (N:=mP L q) (by rw[Eh];exact ha);have hz:=uH (n:=q) (j:=j) (by rw[MT h1]at hj;omega);have I:=Cq J false a3 a4 a5;rw[Bool.false_and,Bool.and_false]at I;rw[v (by rw[ha];simp)]
    repeat'(first
|((with_reducible apply aa.aR);(case hp=>exact aA))
|(refine ar ?_)
|((with_reducible apply aa.u0);(case hx=>first
|((with_reducible apply ac.oQ);(case hm|hk|ho=>exact rfl);(case hf=>exact hf);(case hz=>exact hz))
|((with_reducible apply ac.j_ (es:=[[.bool J],[.bool false],[.bool a3],[.bool a4],[.bool a5]]));(case hw=>exact rfl);(case ho=>kernel_rfl);(case h=>kernel_rfl))
|(exact ap kn)
|(exact ap kw)
|(exact ap kc)
|(exact ap kr)
|(exact ap I)
|exact af))
|fail)
    exact⟨.inr rfl,rfl⟩
   |false=>
    have hf:=zy (s:=t.name) (N:=mP L q) (by rw[Eh];exact ha);have I:=Cq J true a3 a4 a5;rw[Bool.true_and]at I;rw[ha,Bool.not_false,Bool.true_and]at v z
    cases D:(J&&(a3&&(a4&&a5)))with
    |false=>
     rw[D]at I;rw[v (by rw[D];simp)]
     repeat'(first
|((with_reducible apply aa.aR);(case hp=>exact aA))
|(refine ar ?_)
|((with_reducible apply aa.u0);(case hx=>first
|((with_reducible apply ac.lk);(case hm|hk|ho=>exact rfl);(case hf=>exact hf);(case hz=>exact rfl))
|((with_reducible apply ac.j_ (es:=[[.bool J],[.bool true],[.bool a3],[.bool a4],[.bool a5]]));(case hw=>exact rfl);(case ho=>kernel_rfl);(case h=>kernel_rfl))
|(exact ap kn)
|(exact ap kw)
|(exact ap kc)
|(exact ap kr)
|(exact ap I)
|exact af))
|fail)
     exact⟨.inr rfl,rfl⟩
    |true=>
     rw[D]at I;rw[D,Bool.true_and,decide_eq_true_eq]at v z
     have ao:iH S t.av=true:=by
      rw[Bool.and_eq_true,Bool.and_eq_true,Bool.and_eq_true]at D;rw[ai,D.2.2.1]
     have y:=ao;unfold iH at y;rw[Bool.and_eq_true,decide_eq_true_eq]at y;have au:=vo (S:=S) (by omega) Z y.2 y.1;have a6:=mY Z y.2 y.1;have aV:=CG (s:=true) Z ao ht;have aJ:=CG (s:=false) Z ao ht;have ag:=ky (S:=S) true (L.take q);have ad:=ky (S:=S) false (L.take q);have be:(L.take q).length=q:=by simp;omega
     rw[be]at ag ad;obtain⟨P,hP⟩:∃P,c6 S t.av=P:=⟨_,rfl⟩;rw[hP]at au a6
     cases ab:bA t.kind with
     |true=>
      rw[ab]at ks v z;obtain⟨x,hx⟩:∃x,bp S true (L.take q)=x:=⟨_,rfl⟩;rw[hx]at ag v z⊢;by_cases G:t.first=x
      ·
       repeat'(first
|(refine aY ?_)
|(refine ar ?_)
|((with_reducible apply aa.u0);(case hx=>first
|((with_reducible apply ac.lk);(case hm|hk|ho=>exact rfl);(case hf=>exact hf);(case hz=>exact rfl))
|((with_reducible apply ac.j_ (es:=[[.bool J],[.bool true],[.bool a3],[.bool a4],[.bool a5]]));(case hw=>exact rfl);(case ho=>kernel_rfl);(case h=>kernel_rfl))
|((with_reducible apply ac.qs);(case hs=>exact fun _=>rfl);(case hm|ha|hk|hd|hy|hb=>exact rfl);(case hf=>exact hf);(case hks=>exact hks);(case hvs=>exact hvs);(case hfr=>exact leq))
|(exact ap kn)
|(exact ap kw)
|(exact ap kc)
|(exact ap kr)
|(exact ap ks)
|(exact ap I)
|(exact ap au)
|exact af))
|fail)
       exact⟨q+1,rfl,Dn (by rw[aV,aJ,ab,hx,hP];rfl),⟨by omega,z G⟩,by omega⟩
      ·
       rw[v G]
       repeat'(first
|(refine aY ?_)
|(refine ar ?_)
|((with_reducible apply aa.u0);(case hx=>first
|((with_reducible apply ac.lk);(case hm|hk|ho=>exact rfl);(case hf=>exact hf);(case hz=>exact rfl))
|((with_reducible apply ac.j_ (es:=[[.bool J],[.bool true],[.bool a3],[.bool a4],[.bool a5]]));(case hw=>exact rfl);(case ho=>kernel_rfl);(case h=>kernel_rfl))
|((with_reducible apply ac.qs);(case hs=>exact fun _=>rfl);(case hm|ha|hk|hd|hy|hb=>exact rfl);(case hf=>exact hf);(case hks=>exact hks);(case hvs=>exact hvs);(case hfr=>exact leq))
|(exact ap kn)
|(exact ap kw)
|(exact ap kc)
|(exact ap kr)
|(exact ap ks)
|(exact ap I)
|exact af))
|fail)
       exact⟨.inr rfl,rfl⟩
     |false=>
      rw[ab]at ks v z;obtain⟨x,hx⟩:∃x,bp S false (L.take q)=x:=⟨_,rfl⟩;rw[hx]at ad v z⊢;by_cases G:t.first=x
      ·
       repeat'(first
|(refine aY ?_)
|(refine ar ?_)
|((with_reducible apply aa.u0);(case hx=>first
|((with_reducible apply ac.lk);(case hm|hk|ho=>exact rfl);(case hf=>exact hf);(case hz=>exact rfl))
|((with_reducible apply ac.j_ (es:=[[.bool J],[.bool true],[.bool a3],[.bool a4],[.bool a5]]));(case hw=>exact rfl);(case ho=>kernel_rfl);(case h=>kernel_rfl))
|((with_reducible apply ac.qs);(case hs=>exact fun _=>rfl);(case hm|ha|hk|hd|hy|hb=>exact rfl);(case hf=>exact hf);(case hks=>exact hks);(case hvs=>exact hvs);(case hfr=>exact leq))
|(exact ap kn)
|(exact ap kw)
|(exact ap kc)
|(exact ap kr)
|(exact ap ks)
|(exact ap I)
|(exact ap au)
|exact af))
|fail)
       exact⟨q+1,rfl,Dn (by rw[aV,aJ,ab,hx,hP];rfl),⟨by omega,z G⟩,by omega⟩
      ·
       rw[v G]
       repeat'(first
|(refine aY ?_)
|(refine ar ?_)
|((with_reducible apply aa.u0);(case hx=>first
|((with_reducible apply ac.lk);(case hm|hk|ho=>exact rfl);(case hf=>exact hf);(case hz=>exact rfl))
|((with_reducible apply ac.j_ (es:=[[.bool J],[.bool true],[.bool a3],[.bool a4],[.bool a5]]));(case hw=>exact rfl);(case ho=>kernel_rfl);(case h=>kernel_rfl))
|((with_reducible apply ac.qs);(case hs=>exact fun _=>rfl);(case hm|ha|hk|hd|hy|hb=>exact rfl);(case hf=>exact hf);(case hks=>exact hks);(case hvs=>exact hvs);(case hfr=>exact leq))
|(exact ap kn)
|(exact ap kw)
|(exact ap kc)
|(exact ap kr)
|(exact ap ks)
|(exact ap I)
|exact af))
|fail)
       exact⟨.inr rfl,rfl⟩
  ·
   rw[cU h3,Bool.true_and];unfold zW;rw[List.take_of_length_le h3];exact ae
def Lg{C:List Tb}{p:Tb->Bool}{c1 c2:AV}(hl:C.length<=140737488351232)(hp:∀x∈C,Cl ah 172 [.t (.agg (eJ x)),.t c1,.t c2] [] (.t (.bool (p x))) []):Cl ah 190 [.t (.arr (bq C)),.t (.fn (.func 172) 0 [c1,c2])] [] (.t (.int .i64 (bj p C 0))) []:=by
 have z:=fJ C;refine Cl.aq rfl Tryz.func190 rfl rfl rfl ?_;refine ak ?_;refine ax.ind (fun q:Nat=>[(8,.t (.int .i64 (q:Int)))]) (fun q=>q<=C.length/\bj p C 0=bj p (C.drop q) q) (fun q=>C.length - q) 0 rfl (by simp) (fun q D=>?_);obtain⟨h1,h2⟩:=D;rw[h2];rcases Nat.lt_or_ge q C.length with h3|h3
 ·
  obtain⟨e,u⟩:=aj h3;have G:=fo u;have v:=hp e (List.mem_of_getElem? u);rw[drop_at u,iK];obtain⟨b,y⟩:∃b,p e=b:=⟨_,rfl⟩;rw[y]at v⊢
  cases b with
  |true=>
   exact ae
  |false=>
   exact ae
 ·
  rw[List.drop_of_length_le h3];exact ae
def Jp{C:List Tb}{p:Tb->Bool}{c1 c2:AV}(hl:C.length<=140737488351232)(hp:∀x∈C,Cl ah 172 [.t (.agg (eJ x)),.t c1,.t c2] [] (.t (.bool (p x))) []):Cl ah 171 [.t (.arr (bq C)),.t (.fn (.func 172) 0 [c1,c2])] [] (.t (.bool (C.any p))) []:=by
 have u:=Lg hl hp;rw[<- ik p C 0 (by omega)];refine Cl.aq rfl Tryz.func171 rfl rfl rfl ?_;obtain⟨n,v⟩:∃n,bj p C 0=n:=⟨_,rfl⟩;rw[v]at u⊢;exact ae
def Le{C:List Rw}{p:Rw->Bool}{c1:AV}(hl:C.length<=140737488351232)(hp:∀x∈C,Cl ah 177 [.t (.agg (eU x)),.t c1] [] (.t (.bool (p x))) []):Cl ah 193 [.t (.arr (iT C)),.t (.fn (.func 177) 0 [c1])] [] (.t (.int .i64 (bj p C 0))) []:=by
 have z:=xc C;refine Cl.aq rfl Tryz.func193 rfl rfl rfl ?_;refine ak ?_;refine ax.ind (fun q:Nat=>[(8,.t (.int .i64 (q:Int)))]) (fun q=>q<=C.length/\bj p C 0=bj p (C.drop q) q) (fun q=>C.length - q) 0 rfl (by simp) (fun q D=>?_);obtain⟨h1,h2⟩:=D;rw[h2];rcases Nat.lt_or_ge q C.length with h3|h3
 ·
  obtain⟨e,u⟩:=aj h3;have G:=Gt u;have v:=hp e (List.mem_of_getElem? u);rw[drop_at u,iK];obtain⟨b,y⟩:∃b,p e=b:=⟨_,rfl⟩;rw[y]at v⊢
  cases b with
  |true=>
   exact ae
  |false=>
   exact ae
 ·
  rw[List.drop_of_length_le h3];exact ae
def Jn{C:List Rw}{p:Rw->Bool}{c1:AV}(hl:C.length<=140737488351232)(hp:∀x∈C,Cl ah 177 [.t (.agg (eU x)),.t c1] [] (.t (.bool (p x))) []):Cl ah 176 [.t (.arr (iT C)),.t (.fn (.func 177) 0 [c1])] [] (.t (.bool (C.any p))) []:=by
 have u:=Le hl hp;rw[<- ik p C 0 (by omega)];refine Cl.aq rfl Tryz.func176 rfl rfl rfl ?_;obtain⟨n,v⟩:∃n,bj p C 0=n:=⟨_,rfl⟩;rw[v]at u⊢;exact ae
def Lj{C:List Int}{p:Int->Bool}{c1:AV}(hl:C.length<=140737488351232)(hp:∀x∈C,Cl ah 146 [.t (.int .i64 x),.t c1] [] (.t (.bool (p x))) []):Cl ah 32 [.t (ay C),.t (.fn (.func 146) 0 [c1])] [] (.t (.int .i64 (bj p C 0))) []:=by
 have z:=aO C;refine Cl.aq rfl Tryz.func32 rfl rfl rfl ?_;refine ak ?_;refine ax.ind (fun q:Nat=>[(8,.t (.int .i64 (q:Int)))]) (fun q=>q<=C.length/\bj p C 0=bj p (C.drop q) q) (fun q=>C.length - q) 0 rfl (by simp) (fun q D=>?_);obtain⟨h1,h2⟩:=D;rw[h2];rcases Nat.lt_or_ge q C.length with h3|h3
 ·
  obtain⟨e,u⟩:=aj h3;have G:=aW u;have v:=hp e (List.mem_of_getElem? u);rw[drop_at u,iK];obtain⟨b,y⟩:∃b,p e=b:=⟨_,rfl⟩;rw[y]at v⊢
  cases b with
  |true=>
   exact ae
  |false=>
   exact ae
 ·
  rw[List.drop_of_length_le h3];exact ae
def Jr{C:List Int}{p:Int->Bool}{c1:AV}(hl:C.length<=140737488351232)(hp:∀x∈C,Cl ah 146 [.t (.int .i64 x),.t c1] [] (.t (.bool (p x))) []):Cl ah 11 [.t (ay C),.t (.fn (.func 146) 0 [c1])] [] (.t (.bool (C.any p))) []:=by
 have u:=Lj hl hp;rw[<- ik p C 0 (by omega)];refine Cl.aq rfl Tryz.func11 rfl rfl rfl ?_;obtain⟨n,v⟩:∃n,bj p C 0=n:=⟨_,rfl⟩;rw[v]at u⊢;exact ae
def Li{C:List Mem}{p:Mem->Bool}{c1 c2:AV}(hl:C.length<=140737488351232)(hp:∀x∈C,Cl ah 103 [.t (.agg (io x)),.t c1,.t c2] [] (.t (.bool (p x))) []):Cl ah 104 [.t (.arr (cw C)),.t (.fn (.func 103) 0 [c1,c2])] [] (.t (.int .i64 (bj p C 0))) []:=by
 have z:=kU C;refine Cl.aq rfl Tryz.func104 rfl rfl rfl ?_;refine ak ?_;refine ax.ind (fun q:Nat=>[(8,.t (.int .i64 (q:Int)))]) (fun q=>q<=C.length/\bj p C 0=bj p (C.drop q) q) (fun q=>C.length - q) 0 rfl (by simp) (fun q D=>?_);obtain⟨h1,h2⟩:=D;rw[h2];rcases Nat.lt_or_ge q C.length with h3|h3
 ·
  obtain⟨e,u⟩:=aj h3;have G:=iQ u;have v:=hp e (List.mem_of_getElem? u);rw[drop_at u,iK];obtain⟨b,y⟩:∃b,p e=b:=⟨_,rfl⟩;rw[y]at v⊢
  cases b with
  |true=>
   exact ae
  |false=>
   exact ae
 ·
  rw[List.drop_of_length_le h3];exact ae
def CH{C:List Mem}{p:Mem->Bool}{c1 c2:AV}(hl:C.length<=140737488351232)(hp:∀x∈C,Cl ah 103 [.t (.agg (io x)),.t c1,.t c2] [] (.t (.bool (p x))) []):Cl ah 67 [.t (.arr (cw C)),.t (.fn (.func 103) 0 [c1,c2])] [] (.t (.bool (C.any p))) []:=by
 have u:=Li hl hp;rw[<- ik p C 0 (by omega)];refine Cl.aq rfl Tryz.func67 rfl rfl rfl ?_;obtain⟨n,v⟩:∃n,bj p C 0=n:=⟨_,rfl⟩;rw[v]at u⊢;exact ae
def Lk{C:List Mem}{p:Mem->Bool}{c1:AV}(hl:C.length<=140737488351232)(hp:∀x∈C,Cl ah 155 [.t (.agg (io x)),.t c1] [] (.t (.bool (p x))) []):Cl ah 104 [.t (.arr (cw C)),.t (.fn (.func 155) 0 [c1])] [] (.t (.int .i64 (bj p C 0))) []:=by
 have z:=kU C;refine Cl.aq rfl Tryz.func104 rfl rfl rfl ?_;refine ak ?_;refine ax.ind (fun q:Nat=>[(8,.t (.int .i64 (q:Int)))]) (fun q=>q<=C.length/\bj p C 0=bj p (C.drop q) q) (fun q=>C.length - q) 0 rfl (by simp) (fun q D=>?_);obtain⟨h1,h2⟩:=D;rw[h2];rcases Nat.lt_or_ge q C.length with h3|h3
 ·
  obtain⟨e,u⟩:=aj h3;have G:=iQ u;have v:=hp e (List.mem_of_getElem? u);rw[drop_at u,iK];obtain⟨b,y⟩:∃b,p e=b:=⟨_,rfl⟩;rw[y]at v⊢
  cases b with
  |true=>
   exact ae
  |false=>
   exact ae
 ·
  rw[List.drop_of_length_le h3];exact ae
def Js{C:List Mem}{p:Mem->Bool}{c1:AV}(hl:C.length<=140737488351232)(hp:∀x∈C,Cl ah 155 [.t (.agg (io x)),.t c1] [] (.t (.bool (p x))) []):Cl ah 67 [.t (.arr (cw C)),.t (.fn (.func 155) 0 [c1])] [] (.t (.bool (C.any p))) []:=by
 have u:=Lk hl hp;rw[<- ik p C 0 (by omega)];refine Cl.aq rfl Tryz.func67 rfl rfl rfl ?_;obtain⟨n,v⟩:∃n,bj p C 0=n:=⟨_,rfl⟩;rw[v]at u⊢;exact ae
def Lt{C:List Int}{p:Int->Bool}{c1 c2 y:AV}(hl:C.length<=140737488351232)(hp:∀x∈C,Cl ah 66 [.t (.int .i64 x),.t c1,.t c2,.t y] [] (.t (.bool (p x))) []):Cl ah 32 [.t (ay C),.t (.fn (.func 66) 0 [c1,c2,y])] [] (.t (.int .i64 (bj p C 0))) []:=by
 have D:=aO C;refine Cl.aq rfl Tryz.func32 rfl rfl rfl ?_;refine ak ?_;refine ax.ind (fun q:Nat=>[(8,.t (.int .i64 (q:Int)))]) (fun q=>q<=C.length/\bj p C 0=bj p (C.drop q) q) (fun q=>C.length - q) 0 rfl (by simp) (fun q G=>?_);obtain⟨h1,h2⟩:=G;rw[h2];rcases Nat.lt_or_ge q C.length with h3|h3
 ·
  obtain⟨e,u⟩:=aj h3;have I:=aW u;have v:=hp e (List.mem_of_getElem? u);rw[drop_at u,iK];obtain⟨b,z⟩:∃b,p e=b:=⟨_,rfl⟩;rw[z]at v⊢
  cases b with
  |true=>
   exact ae
  |false=>
   exact ae
 ·
  rw[List.drop_of_length_le h3];exact ae
def JB{C:List Int}{p:Int->Bool}{c1 c2 u:AV}(hl:C.length<=140737488351232)(hp:∀x∈C,Cl ah 66 [.t (.int .i64 x),.t c1,.t c2,.t u] [] (.t (.bool (p x))) []):Cl ah 11 [.t (ay C),.t (.fn (.func 66) 0 [c1,c2,u])] [] (.t (.bool (C.any p))) []:=by
 have v:=Lt hl hp;rw[<- ik p C 0 (by omega)];refine Cl.aq rfl Tryz.func11 rfl rfl rfl ?_;obtain⟨n,y⟩:∃n,bj p C 0=n:=⟨_,rfl⟩;rw[y]at v⊢;exact ae
def Lr{C:List Mem}{p:Mem->Bool}{c1 c2:AV}(hl:C.length<=140737488351232)(hp:∀x∈C,Cl ah 68 [.t (.agg (io x)),.t c1,.t c2] [] (.t (.bool (p x))) []):Cl ah 104 [.t (.arr (cw C)),.t (.fn (.func 68) 0 [c1,c2])] [] (.t (.int .i64 (bj p C 0))) []:=by
 have z:=kU C;refine Cl.aq rfl Tryz.func104 rfl rfl rfl ?_;refine ak ?_;refine ax.ind (fun q:Nat=>[(8,.t (.int .i64 (q:Int)))]) (fun q=>q<=C.length/\bj p C 0=bj p (C.drop q) q) (fun q=>C.length - q) 0 rfl (by simp) (fun q D=>?_);obtain⟨h1,h2⟩:=D;rw[h2];rcases Nat.lt_or_ge q C.length with h3|h3
 ·
  obtain⟨e,u⟩:=aj h3;have G:=iQ u;have v:=hp e (List.mem_of_getElem? u);rw[drop_at u,iK];obtain⟨b,y⟩:∃b,p e=b:=⟨_,rfl⟩;rw[y]at v⊢
  cases b with
  |true=>
   exact ae
  |false=>
   exact ae
 ·
  rw[List.drop_of_length_le h3];exact ae
def JA{C:List Mem}{p:Mem->Bool}{c1 c2:AV}(hl:C.length<=140737488351232)(hp:∀x∈C,Cl ah 68 [.t (.agg (io x)),.t c1,.t c2] [] (.t (.bool (p x))) []):Cl ah 67 [.t (.arr (cw C)),.t (.fn (.func 68) 0 [c1,c2])] [] (.t (.bool (C.any p))) []:=by
 have u:=Lr hl hp;rw[<- ik p C 0 (by omega)];refine Cl.aq rfl Tryz.func67 rfl rfl rfl ?_;obtain⟨n,v⟩:∃n,bj p C 0=n:=⟨_,rfl⟩;rw[v]at u⊢;exact ae
def Db{f:Nat}{xs:List AV}{r:SV×Fr}(h0:pY f xs=none)(h:mH f xs=some r):ah.ext f xs=some r:=by
 show(match pY f xs with|some r=>some r|none=>mH f xs)=_
 rw[h0,h]
def mulL(x y:Int)(h:decide (0<=x/\x <18446744073709551616/\0<=y/\y <18446744073709551616)=true):mH 170 [.int .u64 x,.int .u64 y]=some (.aJ [.t (.int .u64 ((x.toNat*y.toNat/18446744073709551616:Nat):Int)),.t (.int .u64 ((x.toNat*y.toNat %18446744073709551616:Nat):Int))],[]):=by
 unfold mH;simp only[Nat.beq_refl,h,Bool.and_self]
def ED{n:Nat}(h:n<=216):((((1:Int).toNat*((n:Nat):Int).toNat/18446744073709551616:Nat):Int)=0)/\((((1:Int).toNat*((n:Nat):Int).toNat %18446744073709551616:Nat):Int)=n):=by
 have v:((n:Nat):Int).toNat=n:=Int.toNat_natCast n;have u:(1:Int).toNat=1:=rfl;rw[v,u,Nat.one_mul];exact⟨by rw[Nat.div_eq_of_lt (by omega)];rfl,by rw[Nat.mod_eq_of_lt (by omega)]⟩
def Nc{n:Nat}(h:n<=216):decide ((0:Int)<=1/\(1:Int)<18446744073709551616/\0<=(n:Int)/\(n:Int)<18446744073709551616)=true:=decide_eq_true (by omega)
def Nb{n:Nat}(h:n<=216):Cl ah 170 [.t (.int .u64 1),.t (.int .u64 (n:Int))] [] (.aJ [.t (.int .u64 0),.t (.int .u64 (n:Int))]) []:=by
 have k:=mulL 1 (n:Int) (Nc h);rw[(ED h).1,(ED h).2]at k;exact Cl.ext (xs:=[.int .u64 1,.int .u64 (n:Int)]) rfl rfl (Db rfl k)
def M6(fr:Fr)(m n:Int):iO ah.P fr 74 (.t (.int .i64 m)) (.t (.int .i64 n))=match decide (0<=m)&&decide (m<=n)&&Nat.ble (n.toNat*16) 281474976710656&&Nat.ble n.toNat 140737488351232 with
  |true=>some (.ls fr.length,fr++[.row false false 2 (List.replicate m.toNat [.int .i64 0,.int .i64 0])],[])
  |false=>none:=by kernel_rfl
def M5{fr:Fr}{n:Nat}(h:n<=1000):iO ah.P fr 74 (.t (.int .i64 (n:Int))) (.t (.int .i64 (n:Int)))=some (.ls fr.length,fr++[.row false false 2 (List.replicate n [.int .i64 0,.int .i64 0])],[]):=by
 have e:(decide (0<=(n:Int))&&decide ((n:Int)<=n)&&Nat.ble ((n:Int).toNat*16) 281474976710656&&Nat.ble (n:Int).toNat 140737488351232)=true:=by
  rw[Int.toNat_natCast];have h1:Nat.ble (n*16) 281474976710656=true:=by rw[Nat.ble_eq];omega
  have h2:Nat.ble n 140737488351232=true:=by rw[Nat.ble_eq];omega
  rw[h1,h2];simp
 rw[M6,e];simp
def Gu:eT ah.P 74=some (105,2,16):=by kernel_rfl
def JE{P:Program}{t T sz u r a n:Nat}{fr:Fr}{y:SV}{tch:Bool}{es zs:List (List AV)}(hr:eT P t=some (T,sz,u))(hb:fr[r]?=some (.row false tch sz es))(hy:iU fr y=some zs)(hn:eP sz zs=true)(hl:a+n<=es.length):lA P fr t (.lv r sz a n) y=some (.t (.int .i64 ((Nat.min zs.length n:Nat):Int)),fr.set r (.row false tch sz (es.take a++zs.take n++es.drop (a+Nat.min zs.length n))),[]):=by
 unfold lA;have h1:Nat.ble (a+n) es.length=true:=by rw[Nat.ble_eq];exact hl
 simp only[hr,hy,hn,Nat.beq_refl];unfold ox;simp only[hb,Nat.beq_refl,h1,Bool.and_self]
def JD{P:Program}{t T sz u r:Nat}{fr:Fr}{y:SV}{tch:Bool}{es zs:List (List AV)}(hr:eT P t=some (T,sz,u))(hb:fr[r]?=some (.row false tch sz es))(hy:iU fr y=some zs)(hn:eP sz zs=true):lA P fr t (.ls r) y=some (.t (.int .i64 ((Nat.min zs.length es.length:Nat):Int)),fr.set r (.row false tch sz (es.take 0++zs.take es.length++es.drop (0+Nat.min zs.length es.length))),[]):=by
 unfold lA;have h1:Nat.ble (0+es.length) es.length=true:=by rw[Nat.ble_eq];omega
 simp only[hr,hy,hn];simp only[hb];unfold ox;simp only[hb,Nat.beq_refl,h1,Bool.and_self]
def Ae(l:List (Int×Int)):eP 2 (bR l)=true:=by
 unfold eP bR;rw[List.all_eq_true];intro v u;obtain⟨x,_,rfl⟩:=List.mem_map.1 u;rfl
def dT(x:Int×Int)(N m:Nat):List (List AV):=bR (List.replicate m x++List.replicate (N - m) (0,0))
def F9{x:Int×Int}{N m:Nat}(h:m<=N):(dT x N m).length=N:=by unfold dT;rw[k7];simp;omega
def Pq{x:Int×Int}{N:Nat}:List.replicate N [AV.int .i64 0,.int .i64 0]=dT x N 0:=by unfold dT bR;simp
def Pr{x:Int×Int}{N:Nat}:dT x N N=bR (List.replicate N x):=by unfold dT;simp
def Ga{x:Int×Int}{N m k:Nat}(h:k<=m):(dT x N m).take k=bR (List.replicate k x):=by
 unfold dT bR;rw[<- List.map_take,List.take_append_of_le_length (by simpa using h),List.take_replicate,Nat.min_eq_left h]
def F_{x:Int×Int}{N m k:Nat}(hk:m+k<=N):(dT x N m).take m++bR (List.replicate k x)++(dT x N m).drop (m+k)=dT x N (m+k):=by
 rw[Ga (Nat.le_refl _)];unfold dT bR;rw[<- List.map_drop,<- List.map_append,<- List.map_append];congr 1;rw[List.replicate_append_replicate];congr 1;rw[List.drop_append];simp;omega
def Q7{x:Int×Int}{m k:Nat}(h:k<=m):(bR (List.replicate m x)).take k=bR (List.replicate k x):=by
 unfold bR;rw[<- List.map_take,List.take_replicate,Nat.min_eq_left h]
def JI{x:Int×Int}{N:Nat}(h1:1<=N)(hN:N<=216):Cl ah 141 [.t (.arr [[.int .i64 x.1,.int .i64 x.2]]),.t (.int .i64 (N:Int))] [] (.ls 0) [.row false false 2 (bR (List.replicate N x))]:=by
 have V:iO ah.P [] 74 (.t (.int .i64 (N:Int))) (.t (.int .i64 (N:Int)))=some (.ls 0,[.row false false 2 (dT x N 0)],[]):=by
  rw[<- Pq];exact M5 (fr:=[]) (by omega)
 have km:=Nb hN;rw[<- Pr (x:=x)]
 have J:lA ah.P [.row false false 2 (dT x N 0)] 74 (.ls 0) (.t (.arr [[.int .i64 x.1,.int .i64 x.2]]))=some (.t (.int .i64 ((1:Nat):Int)),[.row false false 2 (dT x N 1)],[]):=by
  have D:iU [.row false false 2 (dT x N 0)] (.t (.arr [[.int .i64 x.1,.int .i64 x.2]]))=some (bR (List.replicate 1 x)):=rfl;rw[JD Gu rfl D (Ae _),F9 (Nat.zero_le _)];have y:(bR (List.replicate 1 x)).length=1:=rfl;have e3:Nat.min 1 N=1:=Nat.min_eq_left h1;have G:(bR (List.replicate 1 x)).take N=bR (List.replicate 1 x):=List.take_of_length_le (by rw[y];exact h1);have I:=F_ (x:=x) (N:=N) (m:=0) (k:=1) (by omega);rw[y,e3,G,I];rfl
 refine Cl.aq rfl Tryz.func141 rfl rfl rfl ?_
 repeat'(first
|(refine aY ?_)
|(refine ar ?_)
|((with_reducible apply aa.aB);(case hW=>exact rfl);(case hx=>exact af))
|((with_reducible apply aa.u0);(case hx=>first
|((with_reducible apply ac.JS);(case hx|hs|hd=>exact rfl);(case h=>omega))
|((with_reducible apply ac.JR);(case hx|hs|hd=>exact rfl);(case h=>omega))
|((with_reducible apply ac.ec);(case hs=>exact fun _=>rfl);(case hl|hc|hd=>exact rfl);(case hm=>exact V);(case hf=>exact leq))
|((with_reducible apply ac.CJ);(case hs=>exact fun _=>rfl);(case ha|ht|hx|hy=>exact rfl);(case hm=>exact J);(case hf=>exact leq))
|(exact ap km)
|exact af))
|fail)
 apply am.lK
 case ho=>exact rfl
 case hp=>exact rfl
 case hl=>exact rfl
 case hs=>exact slt
 refine ax.cA (fun m:Nat=>[(8,.t (.int .i64 (m:Int)))]) (fun m=>[.row false false 2 (dT x N m)]) (fun m=>1<=m/\m<=N) (fun m=>N - m) 1 rfl rfl ⟨by omega,h1⟩ (fun m hm=>?_);obtain⟨g1,g2⟩:=hm;have v:=F9 (x:=x) g2;have Z:(List.replicate m x++List.replicate (N - m) ((0,0):Int×Int)).length=N:=by simp;omega
 rcases Nat.lt_or_ge m N with g3|g3
 ·
  obtain⟨k,z⟩:∃k,Nat.min m (N - m)=k:=⟨_,rfl⟩
  have ab:k<=m/\k<=N - m/\1<=k:=by
   rw[<- z];have h1:=Nat.min_def (n:=m) (m:=N - m);have h2:Nat.min m (N - m)=min m (N - m):=rfl;rw[h2];omega
  have v1:lf 0 2 0 (dT x N m).length (dT x N m).length (some (.t (.int .i64 (m:Int)))) none=some (.lv 0 2 m (N - m)):=by rw[v];exact RJ (by omega) g3
  have v2:lf 0 2 0 (dT x N m).length (dT x N m).length none (some (.t (.int .i64 (m:Int))))=some (.lv 0 2 0 m):=by rw[v];exact RH g3
  have U:lA ah.P [.row false false 2 (dT x N m)] 74 (.lv 0 2 m (N - m)) (.lv 0 2 0 m)=some (.t (.int .i64 (k:Int)),[.row false false 2 (dT x N (m+k))],[]):=by
   have D:iU [.row false false 2 (dT x N m)] (.lv 0 2 0 m)=some (bR (List.replicate m x)):=by
    show mO [.row false false 2 (dT x N m)] 0 2 0 m=_
    have hb:Nat.ble (0+m) (dT x N m).length=true:=by rw[Nat.ble_eq,v];omega
    unfold mO;simp only[List.getElem?_cons_zero,Nat.beq_refl,hb,Bool.and_self,List.drop_zero,Ga (Nat.le_refl m)]
   rw[JE Gu rfl D (Ae _) (by rw[v];omega)];have y:(bR (List.replicate m x)).length=m:=by rw[k7];simp
   have G:(bR (List.replicate m x)).take (N - m)=bR (List.replicate k x):=by
    rcases Nat.le_total m (N - m)with h|h
    ·have:k=m:=by rw[<- z];exact Nat.min_eq_left h
     rw[this];exact List.take_of_length_le (by rw[y];exact h)
    ·have:k=N - m:=by rw[<- z];exact Nat.min_eq_right h
     rw[this];exact Q7 h
   have I:=F_ (x:=x) (N:=N) (m:=m) (k:=k) (by omega);rw[y,z,G,I];rfl
  repeat'(first
|((with_reducible apply aa.aR);(case hp=>exact aA))
|(refine ar ?_)
|((with_reducible apply az.u);(case hfl=>kernel_rfl);(case hx=>first
|((with_reducible apply ac.GY);(case he=>first|(with_reducible exact pR)|(with_reducible exact el1)|(with_reducible exact pS)|(with_reducible exact el3)|(with_reducible exact el4)|(with_reducible exact pT)|(with_reducible exact el6)|(with_reducible exact el7)|exact rfl);(case hx|hl|hh|hb=>exact rfl);(case hv=>exact v1))
|((with_reducible apply ac.GY);(case he=>first|(with_reducible exact pR)|(with_reducible exact el1)|(with_reducible exact pS)|(with_reducible exact el3)|(with_reducible exact el4)|(with_reducible exact pT)|(with_reducible exact el6)|(with_reducible exact el7)|exact rfl);(case hx|hl|hh|hb=>exact rfl);(case hv=>exact v2))
|((with_reducible apply ac.CJ);(case hs=>exact fun _=>rfl);(case ha|ht|hx|hy=>exact rfl);(case hm=>exact U);(case hf=>exact leq))
|exact af))
|((with_reducible apply aa.u0);(case hx=>exact af))
|fail)
  exact⟨m+k,by rw[Int.natCast_add];rfl,rfl,⟨by omega,by omega⟩,by omega⟩
 ·
  obtain rfl:m=N:=by omega
  exact ae
def EW{S C:List Int}(hs:cx S=true)(h3:C.all (cr S)=true)(h1:C.length<=3):bG S C=c6 S C:=Aj hs (by unfold iH;rw[h3,decide_eq_true h1];rfl)
def Bm{k:Int}{s:Bool}(h:bA k≠s):bA k=!s:=by
 cases s <;>cases u:bA k <;>simp_all
def CK{S:List Int}{L:List Tb}(s:Bool)(hv:bQ S L=true):Cl ah 94 [.t (ay S),.t (.arr (bq L)),.t (.bool s)] [] (.ls 0) [.row false false 2 (bR (bH S L s))]:=by
 have ag:=aO S;have ad:=fJ L;have ab:=jk hv;have v:=p_ hv
 have kv:=yI (S:=S) (L:=L) (by omega) (by omega) (fun t ht=>by
  obtain⟨k,hk⟩:=List.mem_iff_getElem?.1 ht;have:=(jL hv hk).1;omega)
 have hr:bH S L s=L.flatMap (eQ S s):=by unfold bH;rw[hv];rfl
 rw[hv]at kv;rw[hr];refine Cl.aq rfl Tryz.func94 rfl rfl rfl ?_;refine ak ?_;refine ax.cA (fun x:Nat×Bool=>[(7,.ls 0),(16,.t (.int .i64 (x.1:Int)))]) (fun x=>[.row false x.2 2 (bR ((L.take x.1).flatMap (eQ S s)))]) (fun x=>x.1<=L.length) (fun x=>L.length - x.1) (0,false) rfl rfl (by simp) (fun x hq=>?_);obtain⟨q,D⟩:=x;dsimp only at hq⊢;rcases Nat.lt_or_ge q L.length with h3|h3
 ·
  obtain⟨t,ht⟩:=aj h3;have hc:=fo ht;obtain⟨G,c2,I⟩:=jL hv ht;have ks:=vn t;have U:=mY v I G;have V:=vo (S:=S) (C:=t.av) (by omega) v I G;have ai:=FU S s (L.take q);have al:(L.take q).length<=12:=by simp;omega
  obtain⟨P,hP⟩:∃P,(c6 S t.av).toNat=P:=⟨_,rfl⟩;have J:c6 S t.av=(P:Int):=by omega
  rw[J]at V U;have kr:=JI (x:=(t.lo,t.hi)) (N:=P) (by omega) (by omega);by_cases hs:bA t.kind=s
  ·
   have z:bR ((L.take q).flatMap (eQ S s))++bR (List.replicate P (t.lo,t.hi))=bR ((L.take (q+1)).flatMap (eQ S s)):=by
    rw[FI,tw ht];congr 2;unfold eQ;rw[if_pos hs,EW v I G,hP]
   have y:b6 ((bR ((L.take q).flatMap (eQ S s))).length+(bR (List.replicate P (t.lo,t.hi))).length) 16=true:=by
    rw[k7,k7,List.length_replicate];exact tQ (by omega) (by decide)
   have Z:=Ae (List.replicate P (t.lo,t.hi));rw[hs]at ks;cases s
   ·
    repeat'(first
|(with_reducible first|apply am.seq|apply am.block)
|((with_reducible apply am.text);(try case hm=>exact rfl))
|((with_reducible apply am.drawn);(case hm=>exact rfl))
|(with_reducible first|apply am.skip|apply dx)
|((with_reducible apply am.ew);(case hc=>exact rfl))
|((with_reducible apply aa.aR);(case hp=>exact aA))
|(with_reducible first|apply aa.cI|apply aa.eE)
|((with_reducible apply aa.u);(case hx=>((with_reducible apply ac.da);(case hs=>exact fun _=>rfl);(case ha|ht=>exact rfl);(case hr=>first|(with_reducible exact c7)|(with_reducible exact rw1)|(with_reducible exact c8)|(with_reducible exact rw3)|(with_reducible exact rw4)|exact rfl);(case hx|hy|hn|hb=>exact rfl);(case hok=>exact Z);(case hlen=>exact y);(case hv=>exact z);(case hk=>exact de);(case hf=>exact leq))))
|((with_reducible apply aa.u0);(case hx=>first
|((with_reducible apply ac.j_ (es:=[[.int .i64 t.lo,.int .i64 t.hi]]));(case hw=>exact rfl);(case ho=>kernel_rfl);(case h=>kernel_rfl))
|(exact ap ks)
|(exact ap V)
|(exact Ap kr)
|exact af))
|fail)
    exact⟨(q+1,true),rfl,rfl,by dsimp only;omega,by dsimp only;omega⟩
   ·
    repeat'(first
|(with_reducible first|apply am.seq|apply am.block)
|((with_reducible apply am.text);(try case hm=>exact rfl))
|((with_reducible apply am.drawn);(case hm=>exact rfl))
|(with_reducible first|apply am.skip|apply dx)
|((with_reducible apply am.ew);(case hc=>exact rfl))
|((with_reducible apply aa.aR);(case hp=>exact aA))
|(with_reducible first|apply aa.cI|apply aa.eE)
|((with_reducible apply aa.u);(case hx=>((with_reducible apply ac.da);(case hs=>exact fun _=>rfl);(case ha|ht=>exact rfl);(case hr=>first|(with_reducible exact c7)|(with_reducible exact rw1)|(with_reducible exact c8)|(with_reducible exact rw3)|(with_reducible exact rw4)|exact rfl);(case hx|hy|hn|hb=>exact rfl);(case hok=>exact Z);(case hlen=>exact y);(case hv=>exact z);(case hk=>exact de);(case hf=>exact leq))))
|((with_reducible apply aa.u0);(case hx=>first
|((with_reducible apply ac.j_ (es:=[[.int .i64 t.lo,.int .i64 t.hi]]));(case hw=>exact rfl);(case ho=>kernel_rfl);(case h=>kernel_rfl))
|(exact ap ks)
|(exact ap V)
|(exact Ap kr)
|exact af))
|fail)
    exact⟨(q+1,true),rfl,rfl,by dsimp only;omega,by dsimp only;omega⟩
  ·
   rw[FR ht hs];rw[Bm hs]at ks;cases s
   ·
    refine ak ?_;exact⟨(q+1,D),rfl,rfl,by dsimp only;omega,by dsimp only;omega⟩
   ·
    refine ak ?_;exact⟨(q+1,D),rfl,rfl,by dsimp only;omega,by dsimp only;omega⟩
 ·
  rw[List.take_of_length_le h3];exact ae
def zF{S:List Int}{s:Bool}{c:Int}{t:Tb}(u:cx S=true)(c1:t.av.length<=3)(v:t.av.all (cr S)=true):ff S s c t=true↔bA t.kind=s/\0<=c/\0<=c - t.first/\c - t.first <c6 S t.av:=by
 rw[tE,EW u v c1]
def JQ{S:List Int}{L:List Tb}{s:Bool}{c:Int}(hv:bQ S L=true)(hc:c<=9223372036854775807):match fI S L s c with
  |some (i,t)=>Cl ah 192 [.t (ay S),.t (.arr (bq L)),.t (.bool s),.t (.int .i64 c)] [] (.aJ [.t (.int .i64 (i:Int)),.ls 0,.t (.bool true)]) [.row false false 1 (aE (qw S t.av (c - t.first)))]
  |none=>Cl ah 192 [.t (ay S),.t (.arr (bq L)),.t (.bool s),.t (.int .i64 c)] [] (.aJ [.t (.int .i64 0),.nil,.t (.bool false)]) []:=by
 have bb:=aO S;have a8:=fJ L;have a1:=jk hv;have D:=p_ hv
 have kv:=yI (S:=S) (L:=L) (by omega) (by omega) (fun t ht=>by
  obtain⟨k,hk⟩:=List.mem_iff_getElem?.1 ht;have:=(jL hv hk).1;omega)
 have hr:fI S L s c=fV (ff S s c) 0 L:=by unfold fI;rw[hv];rfl
 rw[hv]at kv;rw[hr];by_cases h0:c <0
 ·
  have hn:fV (ff S s c) 0 L=none:=by
   cases hf:fV (ff S s c) 0 L with
   |none=>rfl
   |some r=>
    have:=zt hf;rw[tE]at this;omega
  rw[hn];refine Cl.aq rfl Tryz.func192 rfl rfl rfl ?_;exact ae
 ·
  cases hf:fV (ff S s c) 0 L with
  |none=>
   show Cl ah 192 _ [] _ []
   refine Cl.aq rfl Tryz.func192 rfl rfl rfl ?_;refine ak ?_;refine ax.ind (fun q:Nat=>[(27,.t (.int .i64 (q:Int)))]) (fun q=>q<=L.length/\fV (ff S s c) q (L.drop q)=none) (fun q=>L.length - q) 0 rfl ⟨by omega,hf⟩ (fun q hq=>?_);obtain⟨h1,h2⟩:=hq;rcases Nat.lt_or_ge q L.length with h3|h3
   ·
    obtain⟨t,ht⟩:=aj h3;have aX:=fo ht;obtain⟨c1,c2,c3⟩:=jL hv ht;have y:=vn t;have kw:=vo (S:=S) (C:=t.av) (by omega) D c3 c1;obtain⟨f0,f1⟩:=wk hv ht;rw[vP ht]at h2
    cases hi:ff S s c t with
    |true=>rw[hi]at h2;cases h2
    |false=>
     rw[hi]at h2;have V:¬(bA t.kind=s/\0<=c/\0<=c - t.first/\c - t.first <c6 S t.av):=fun h=>by rw[(zF D c1 c3).2 h]at hi;cases hi
     obtain⟨P,hP⟩:∃P,c6 S t.av=P:=⟨_,rfl⟩;rw[hP]at kw V;by_cases hs:bA t.kind=s
     ·
      rw[hs]at y;cases s <;>
      repeat'(first
|((with_reducible apply aa.aR);(case hp=>exact aA))
|((with_reducible apply aa.bi)<;>intro hq)
|(refine ar ?_)
|((with_reducible apply aa.aB);(case hW=>exact rfl);(case hx=>first
|(exact ap kw)
|exact af))
|((with_reducible apply aa.u0);(case hx=>first
|(exact ap y)
|exact af))
|fail)
      all_goals first
       |exact⟨q+1,rfl,rfl,⟨by omega,h2⟩,by omega⟩
       |(exfalso;apply V;exact⟨hs,by omega,by omega,by omega⟩)
     ·
      rw[Bm hs]at y;cases s <;>
      repeat'(first
|((with_reducible apply aa.aR);(case hp=>exact aA))
|(refine ar ?_)
|((with_reducible apply aa.u0);(case hx=>first
|(exact ap y)
|exact af))
|fail)
      all_goals exact⟨q+1,rfl,rfl,⟨by omega,h2⟩,by omega⟩
   ·
    exact ae
  |some it=>
   obtain⟨i,u⟩:=it;show Cl ah 192 _ [] _ _
   refine Cl.aq rfl Tryz.func192 rfl rfl rfl ?_;refine ak ?_;refine ax.ind (fun q:Nat=>[(27,.t (.int .i64 (q:Int)))]) (fun q=>q<=L.length/\fV (ff S s c) q (L.drop q)=some (i,u)) (fun q=>L.length - q) 0 rfl ⟨by omega,hf⟩ (fun q hq=>?_);obtain⟨h1,h2⟩:=hq;rcases Nat.lt_or_ge q L.length with h3|h3
   ·
    obtain⟨t,ht⟩:=aj h3;have aX:=fo ht;obtain⟨c1,c2,c3⟩:=jL hv ht;have y:=vn t;have kw:=vo (S:=S) (C:=t.av) (by omega) D c3 c1;have au:=mY D c3 c1;obtain⟨f0,f1⟩:=wk hv ht;rw[vP ht]at h2
    cases hi:ff S s c t with
    |true=>
     rw[hi,if_pos rfl]at h2;obtain⟨rfl,rfl⟩:q=i/\t=u:=by cases h2;exact⟨rfl,rfl⟩
     have ad:=(zF D c1 c3).1 hi;obtain⟨P,hP⟩:∃P,c6 S t.av=P:=⟨_,rfl⟩;rw[hP]at kw ad au;obtain⟨y1,y2,y3,y4⟩:=ad;rw[y1]at y;have ao:iO ah.P [.box false 107 ((eJ t).map .t)] 22 (.t (.int .i64 (t.av.length:Int))) (.t (.int .i64 (t.av.length:Int)))=some (.ls 1,[.box false 107 ((eJ t).map .t),.row false false 1 (aE (List.replicate t.av.length 0))],[]):=Ez (fr:=[.box false 107 ((eJ t).map .t)]) (n:=t.av.length) (by omega);have ab:(List.replicate t.av.length (0:Int)).length=t.av.length:=List.length_replicate;have a6:=aO t.av;cases s
     ·
      repeat'(first
|(refine aY ?_)
|(refine ar ?_)
|((with_reducible apply aa.aB);(case hW=>exact rfl);(case hx=>first
|(exact ap kw)
|exact af))
|((with_reducible apply aa.u0);(case hx=>first
|((with_reducible apply ac.ec);(case hs=>exact fun _=>rfl);(case hl|hc|hd=>exact rfl);(case hm=>exact ao);(case hf=>exact leq))
|(exact ap y)
|exact af))
|fail)
      apply am.lK
      case ho=>exact rfl
      case hp=>exact rfl
      case hl=>exact rfl
      case hs=>exact slt
      refine ax.cA (fun x:Nat×Int×List Int=>[(13,.t (.int .i64 x.2.1)),(15,.t (.int .i64 ((x.1:Int) - 1)))]) (fun x=>[.box false 107 ((eJ t).map .t),.row false false 1 (aE x.2.2)]) (fun x=>x.1<=t.av.length/\0<=x.2.1/\x.2.1<=1000/\x.2.2.length=t.av.length/\jl S t.av x.1 x.2.1 x.2.2=qw S t.av (c - t.first)) (fun x=>x.1) (t.av.length,c - t.first,List.replicate t.av.length 0) (by simp only[ab];rfl) rfl ⟨by dsimp only;omega,by dsimp only;omega,by dsimp only;omega,by simp,rfl⟩ (fun x hx=>?_);obtain⟨j,k,r⟩:=x;dsimp only at hx⊢;obtain⟨n1,n2,n3,n4,n5⟩:=hx
      cases j with
      |zero=>
       rw[<- n5];exact ae
      |succ j=>
       obtain⟨c',G⟩:=aj (xs:=t.av) (k:=j) (by omega);have aD:=aW G;have I:=List.all_eq_true.1 c3 c' (List.mem_of_getElem? G);obtain⟨d1,d2⟩:=vk D I;simp only[cr,Bool.and_eq_true,decide_eq_true_eq]at I;obtain⟨d3,d4⟩:=I;obtain⟨z,J⟩:=aj (xs:=S) (k:=c'.toNat) (by omega);have aV:=aW J;rw[fb J]at d1 d2;obtain⟨v,an⟩:=aj (xs:=r) (k:=j) (by omega);have al:=aW an;have aG:=aO r;have ej:(((j+1:Nat):Int) - 1)=(j:Int):=by omega
       rw[ej];have ag:(aE r)[((j:Nat):Int).toNat]?=some [.int .i64 v]:=by rw[Int.toNat_natCast];exact al
       have ai:(aE r).set ((j:Nat):Int).toNat [.int .i64 (k.tmod z)]=aE (r.set j (k.tmod z)):=by rw[Int.toNat_natCast];simp[aE,List.map_set]
       have hd:0<=k.tdiv z/\k.tdiv z<=k:=by
        rw[Int.tdiv_eq_ediv_of_nonneg n2];exact⟨Int.ediv_nonneg n2 (by omega),Int.ediv_le_self _ n2⟩
       have Z:jl S t.av (j+1) k r=jl S t.av j (k.tdiv z) (r.set j (k.tmod z)):=by
        have e1:t.av.getD j 0=c':=fb G;have e2:S.getD c'.toNat 0=z:=fb J;rw[jl,e1,e2]
       obtain⟨kd,U⟩:∃kd,k.tdiv z=kd:=⟨_,rfl⟩;rw[U]at hd Z
       repeat'(first
|((with_reducible apply aa.aR);(case hp=>exact aA))
|(refine ar ?_)
|((with_reducible apply az.u);(case hfl=>kernel_rfl);(case hx=>first
|((with_reducible apply ac.lV);(case hx|hy=>exact rfl);(case hn=>omega);(case h=>exact rfl))
|((with_reducible apply ac.gT);(case hx|hy=>exact rfl);(case hn=>omega);(case h=>exact U);(case hb=>omega))
|((with_reducible apply ac.qE);(case hs=>exact fun _=>rfl);(case ha|hy|ht|hone=>exact rfl);(case hn=>kernel_rfl);(case hb=>exact rfl);(case hk=>exact ag);(case hj=>exact rfl);(case hv=>exact ai);(case hf=>exact leq))
|exact af))
|((with_reducible apply aa.u0);(case hx=>exact af))
|fail)
       exact⟨(j,kd,r.set j (k.tmod z)),rfl,rfl,⟨by dsimp only;omega,by dsimp only;omega,by dsimp only;omega,by simp[n4],by dsimp only;rw[<- Z];exact n5⟩,by dsimp only;omega⟩
     ·
      repeat'(first
|(refine aY ?_)
|(refine ar ?_)
|((with_reducible apply aa.aB);(case hW=>exact rfl);(case hx=>first
|(exact ap kw)
|exact af))
|((with_reducible apply aa.u0);(case hx=>first
|((with_reducible apply ac.ec);(case hs=>exact fun _=>rfl);(case hl|hc|hd=>exact rfl);(case hm=>exact ao);(case hf=>exact leq))
|(exact ap y)
|exact af))
|fail)
      apply am.lK
      case ho=>exact rfl
      case hp=>exact rfl
      case hl=>exact rfl
      case hs=>exact slt
      refine ax.cA (fun x:Nat×Int×List Int=>[(13,.t (.int .i64 x.2.1)),(15,.t (.int .i64 ((x.1:Int) - 1)))]) (fun x=>[.box false 107 ((eJ t).map .t),.row false false 1 (aE x.2.2)]) (fun x=>x.1<=t.av.length/\0<=x.2.1/\x.2.1<=1000/\x.2.2.length=t.av.length/\jl S t.av x.1 x.2.1 x.2.2=qw S t.av (c - t.first)) (fun x=>x.1) (t.av.length,c - t.first,List.replicate t.av.length 0) (by simp only[ab];rfl) rfl ⟨by dsimp only;omega,by dsimp only;omega,by dsimp only;omega,by simp,rfl⟩ (fun x hx=>?_);obtain⟨j,k,r⟩:=x;dsimp only at hx⊢;obtain⟨n1,n2,n3,n4,n5⟩:=hx
      cases j with
      |zero=>
       rw[<- n5];exact ae
      |succ j=>
       obtain⟨c',G⟩:=aj (xs:=t.av) (k:=j) (by omega);have aD:=aW G;have I:=List.all_eq_true.1 c3 c' (List.mem_of_getElem? G);obtain⟨d1,d2⟩:=vk D I;simp only[cr,Bool.and_eq_true,decide_eq_true_eq]at I;obtain⟨d3,d4⟩:=I;obtain⟨z,J⟩:=aj (xs:=S) (k:=c'.toNat) (by omega);have aV:=aW J;rw[fb J]at d1 d2;obtain⟨v,an⟩:=aj (xs:=r) (k:=j) (by omega);have al:=aW an;have aG:=aO r;have ej:(((j+1:Nat):Int) - 1)=(j:Int):=by omega
       rw[ej];have ag:(aE r)[((j:Nat):Int).toNat]?=some [.int .i64 v]:=by rw[Int.toNat_natCast];exact al
       have ai:(aE r).set ((j:Nat):Int).toNat [.int .i64 (k.tmod z)]=aE (r.set j (k.tmod z)):=by rw[Int.toNat_natCast];simp[aE,List.map_set]
       have hd:0<=k.tdiv z/\k.tdiv z<=k:=by
        rw[Int.tdiv_eq_ediv_of_nonneg n2];exact⟨Int.ediv_nonneg n2 (by omega),Int.ediv_le_self _ n2⟩
       have Z:jl S t.av (j+1) k r=jl S t.av j (k.tdiv z) (r.set j (k.tmod z)):=by
        have e1:t.av.getD j 0=c':=fb G;have e2:S.getD c'.toNat 0=z:=fb J;rw[jl,e1,e2]
       obtain⟨kd,U⟩:∃kd,k.tdiv z=kd:=⟨_,rfl⟩;rw[U]at hd Z
       repeat'(first
|((with_reducible apply aa.aR);(case hp=>exact aA))
|(refine ar ?_)
|((with_reducible apply az.u);(case hfl=>kernel_rfl);(case hx=>first
|((with_reducible apply ac.lV);(case hx|hy=>exact rfl);(case hn=>omega);(case h=>exact rfl))
|((with_reducible apply ac.gT);(case hx|hy=>exact rfl);(case hn=>omega);(case h=>exact U);(case hb=>omega))
|((with_reducible apply ac.qE);(case hs=>exact fun _=>rfl);(case ha|hy|ht|hone=>exact rfl);(case hn=>kernel_rfl);(case hb=>exact rfl);(case hk=>exact ag);(case hj=>exact rfl);(case hv=>exact ai);(case hf=>exact leq))
|exact af))
|((with_reducible apply aa.u0);(case hx=>exact af))
|fail)
       exact⟨(j,kd,r.set j (k.tmod z)),rfl,rfl,⟨by dsimp only;omega,by dsimp only;omega,by dsimp only;omega,by simp[n4],by dsimp only;rw[<- Z];exact n5⟩,by dsimp only;omega⟩
    |false=>
     rw[hi]at h2;have V:¬(bA t.kind=s/\0<=c/\0<=c - t.first/\c - t.first <c6 S t.av):=fun h=>by rw[(zF D c1 c3).2 h]at hi;cases hi
     obtain⟨P,hP⟩:∃P,c6 S t.av=P:=⟨_,rfl⟩;rw[hP]at kw V;by_cases hs:bA t.kind=s
     ·
      rw[hs]at y;cases s <;>
      repeat'(first
|((with_reducible apply aa.aR);(case hp=>exact aA))
|((with_reducible apply aa.bi)<;>intro hq)
|(refine ar ?_)
|((with_reducible apply aa.aB);(case hW=>exact rfl);(case hx=>first
|(exact ap kw)
|exact af))
|((with_reducible apply aa.u0);(case hx=>first
|(exact ap y)
|exact af))
|fail)
      all_goals first
       |exact⟨q+1,rfl,rfl,⟨by omega,h2⟩,by omega⟩
       |(exfalso;apply V;exact⟨hs,by omega,by omega,by omega⟩)
     ·
      rw[Bm hs]at y;cases s <;>
      repeat'(first
|((with_reducible apply aa.aR);(case hp=>exact aA))
|(refine ar ?_)
|((with_reducible apply aa.u0);(case hx=>first
|(exact ap y)
|exact af))
|fail)
      all_goals exact⟨q+1,rfl,rfl,⟨by omega,h2⟩,by omega⟩
   ·
    rw[De h3]at h2;cases h2
end Go.Proofs.YtjolgbkkocjpgaaGreatDoor
