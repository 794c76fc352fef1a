/- Law 52: the texts of clocks. No condition. -/
import Derived.Test.YtjolgbkkocjpgaaGreatDoorTW
import Derived.Test.YtjolgbkkocjpgaaGreatDoorTS
import Derived.Test.YtjolgbkkocjpgaaGreatDoorTD
set_option linter.all false
namespace Go.Proofs.YtjolgbkkocjpgaaGreatDoor
open Go.RowKit
set_option maxRecDepth 100000
set_option maxHeartbeats 4000000
def bs(l:List UInt8):ByteArray:=⟨l.toArray⟩
def e9(l:List UInt8):(bs l).size=l.length:=by simp[bs,ByteArray.size]
set_option maxHeartbeats 16000000
def Ck(s:ByteArray):bs s.data.toList=s:=by obtain⟨⟨l⟩⟩:=s;rfl
def q8{x y:List UInt8}(h:bs x=bs y):x=y:=by
 have:=congrArg (fun s:ByteArray=>s.data.toList) h;simpa[bs]using this
def tQ{n u:Nat}(h:n<=1000000)(hb:u<=1000):b6 n u=true:=by
 have:=Nat.mul_le_mul h hb;simp[b6];omega
def ol(l:List UInt8)(i j:Nat):(bs l).extract i j=bs ((l.take j).drop i):=by
 apply ByteArray.ext;rw[ByteArray.data_extract];simp[bs,List.drop_take]
def AR(b:UInt8):Cl ah 208 [.t (.int .u8 (b.toNat:Int))] [] (.t (.bool (eO b))) []:=by
 refine Cl.aq rfl Tryz.func208 rfl rfl rfl ?_
 repeat'(first
|((with_reducible apply aa.aX)<;>intro u)
|((with_reducible apply aa.bi)<;>intro u)
|(refine ar ?_)
|((with_reducible apply aa.aB);(case hW=>exact rfl);(case hx=>exact af))
|((with_reducible apply aa.u0);(case hx=>exact af))
|fail)
 all_goals(refine a_ (.inr rfl) rfl ?_;unfold eO;first|(simp_all;done)|(simp_all;omega))
def wS(b:UInt8):Cl ah 209 [.t (.int .u8 (b.toNat:Int))] [] (.t (.bool (b_ b))) []:=by
 refine Cl.aq rfl Tryz.func209 rfl rfl rfl ?_
 repeat'(first
|((with_reducible apply aa.aX)<;>intro u)
|((with_reducible apply aa.bi)<;>intro u)
|(refine ar ?_)
|((with_reducible apply aa.aB);(case hW=>exact rfl);(case hx=>exact af))
|((with_reducible apply aa.u0);(case hx=>exact af))
|fail)
 all_goals(refine a_ (.inr rfl) rfl ?_;unfold b_;first|(simp_all;done)|(simp_all;omega))
def Gv(b:UInt8):Cl ah 207 [.t (.int .u8 (b.toNat:Int))] [] (.t (.bool (dI b))) []:=by
 refine Cl.aq rfl Tryz.func207 rfl rfl rfl ?_
 repeat'(first
|((with_reducible apply aa.aX)<;>intro u)
|((with_reducible apply aa.bi)<;>intro u)
|(refine ar ?_)
|((with_reducible apply aa.aB);(case hW=>exact rfl);(case hx=>exact af))
|((with_reducible apply aa.u0);(case hx=>exact af))
|fail)
 all_goals(refine a_ (.inr rfl) rfl ?_;unfold dI;first|(simp_all;done)|(simp_all;omega))
def Pw{l:List UInt8}{q0:Nat}(hl:l.length<=1000000)(h0:q0<=l.length):Cl ah 195 [.t (.str (bs l)),.t (.int .i64 (q0:Int))] [] (.t (.int .i64 (cN l q0:Int))) []:=by
 have Z:(bs l).size=l.length:=e9 l;refine Cl.aq rfl Tryz.func195 rfl rfl rfl ?_;refine ak ?_;refine ax.ind (fun q:Nat=>[(1,.t (.int .i64 (q:Int)))]) (fun q=>q<=l.length/\q+aZ false (l.drop q)=cN l q0) (fun q=>l.length - q) q0 rfl ⟨h0,rfl⟩ (fun q V=>?_);obtain⟨h1,h2⟩:=V;rcases Nat.lt_or_ge q l.length with h3|h3
 ·
  obtain⟨b,hb⟩:=aj h3;have D:=Gv b
  cases y:dI b with
  |true=>
   rw[y]at D;have hn:¬(b.toNat:Int)=35:=by intro h;simp[dI]at y;omega
   have hs:=GQ hb y;exact ae
  |false=>
   rw[y]at D;by_cases J:(b.toNat:Int)=35
   ·
    have hs:=Qy hb (by omega);refine ak ?_;refine ax.ind (fun p:Nat=>[(1,.t (.int .i64 (p:Int)))]) (fun p=>(p=q\/q <p)/\p<=l.length/\p+aZ true (l.drop p)=cN l q0) (fun p=>l.length - p) q rfl ⟨.inl rfl,h1,by omega⟩ (fun p hp=>?_);obtain⟨g0,g1,g2⟩:=hp;rcases Nat.lt_or_ge p l.length with g3|g3
    ·
     obtain⟨G,u⟩:=aj g3;by_cases I:(G.toNat:Int)=10
     ·
      have v:=QA u (by omega)
      have U:p≠q:=by
       rintro rfl;rw[hb]at u;cases u;omega
      repeat'(first
|(refine aY ?_)
|(refine ar ?_)
|((with_reducible apply aa.aB);(case hW=>exact rfl);(case hx=>first
|((with_reducible apply ac.gV);(case hx|hi|hst=>exact rfl);(case h0=>omega);(case hb=>assumption))
|exact af))
|((with_reducible apply aa.u0);(case hx=>exact af))
|fail)
      exact⟨p,rfl,rfl,⟨by omega,by omega⟩,by omega⟩
     ·
      have v:=GN u (by omega)
      repeat'(first
|(refine aY ?_)
|(refine ar ?_)
|((with_reducible apply aa.aB);(case hW=>exact rfl);(case hx=>first
|((with_reducible apply ac.gV);(case hx|hi|hst=>exact rfl);(case h0=>omega);(case hb=>assumption))
|exact af))
|((with_reducible apply aa.u0);(case hx=>exact af))
|fail)
      exact⟨p+1,rfl,rfl,⟨.inr (by omega),by omega,by omega⟩,by omega⟩
    ·
     have v:=xp true g3;have z:=xp false g3
     repeat'(first
|((with_reducible apply aa.cQ);(case hp=>exact aA))
|(refine ar ?_)
|((with_reducible apply aa.u0);(case hx=>exact af))
|fail)
     exact⟨p,rfl,rfl,⟨by omega,by omega⟩,by omega⟩
   ·
    have hs:=GO hb y (by omega);rw[<- h2,hs];exact ae
 ·
  obtain rfl:q=l.length:=by omega
  have hs:=xp (l:=l) false (Nat.le_refl _);rw[<- h2,hs];exact ae
def l6(L:List (List UInt8)):List (List AV):=L.map fun w=>[.str (bs w)]
def G8(L:List (List UInt8)):(l6 L).length=L.length:=by simp[l6]
def G7{L:List (List UInt8)}{k:Nat}{w:List UInt8}(h:L[k]?=some w):(l6 L)[k]?=some [.str (bs w)]:=by simp[l6,h]
def QZ:Cl ah 216 [] [] (.tc (l6 qF)) []:=⟨5,by kernel_rfl⟩
def we:Cl ah 210 [] [] (.tc (l6 cZ)) []:=⟨5,by kernel_rfl⟩
def QV{s:List UInt8}(h:s∈qF):1<=s.length/\s.length<=2:=by
 revert s;decide
def Gg{l:List UInt8}{q:Nat}(hl:l.length<=1000000)(h0:q<=l.length):Cl ah 211 [.t (.str (bs l)),.t (.int .i64 (q:Int))] [] (.t (.int .i64 (iy (l.drop q):Int))) []:=by
 have Z:(bs l).size=l.length:=e9 l;have u:(l6 qF).length=18:=rfl;refine Cl.aq rfl Tryz.func211 rfl rfl rfl ?_;obtain⟨S,I⟩:∃S,qF=S:=⟨_,rfl⟩;have G:=QZ;have D:∀s∈S,1<=s.length/\s.length<=2:=fun s h=>QV (I ▸ h);unfold iy;rw[I]at G u⊢;rw[G8]at u;have hL:=G8 S;refine ak ?_;refine ax.ind (fun k:Nat=>[(6,.t (.int .i64 (k:Int)))]) (fun k=>k<=S.length/\fk S (l.drop q)=fk (S.drop k) (l.drop q)) (fun k=>S.length - k) 0 rfl ⟨by omega,rfl⟩ (fun k U=>?_);obtain⟨h1,h2⟩:=U;rw[h2];rcases Nat.lt_or_ge k S.length with h3|h3
 ·
  obtain⟨s,hs⟩:=aj h3;have hc:=G7 hs;have J:=D s (List.mem_of_getElem? hs);have V:(bs s).size=s.length:=e9 s;have hd:(l.drop q).length=l.length - q:=by simp
  by_cases h4:q+s.length<=l.length
  ·
   have hx:(bs l).extract q (q+s.length)=bs ((l.drop q).take s.length):=by rw[ol,List.drop_take,Nat.add_sub_cancel_left]
   by_cases v:(l.drop q).take s.length=s
   ·
    have y:=QY (t:=l.drop q) hs ⟨by omega,v⟩;have z:bs ((l.drop q).take s.length)=bs s:=by rw[v]
    rw[y]
    repeat'(first
|(refine aY ?_)
|(refine ar ?_)
|((with_reducible apply aa.aB);(case hW=>exact rfl);(case hx=>first
|((with_reducible apply ac.ss);(case hst|hx|hl|hh=>exact rfl);(case hlh=>omega);(case hhs=>omega);(case hv=>exact hx))
|exact af))
|((with_reducible apply aa.u0);(case hx=>exact af))
|fail)
    exact⟨.inr rfl,rfl⟩
   ·
    have y:=Hg (t:=l.drop q) hs (fun h=>v h.2);have z:¬bs ((l.drop q).take s.length)=bs s:=fun h=>v (q8 h)
    repeat'(first
|(refine aY ?_)
|(refine ar ?_)
|((with_reducible apply aa.aB);(case hW=>exact rfl);(case hx=>first
|((with_reducible apply ac.ss);(case hst|hx|hl|hh=>exact rfl);(case hlh=>omega);(case hhs=>omega);(case hv=>exact hx))
|exact af))
|((with_reducible apply aa.u0);(case hx=>exact af))
|fail)
    exact⟨k+1,rfl,rfl,⟨by omega,by omega⟩,by omega⟩
  ·
   have y:=Hg (t:=l.drop q) hs (fun h=>by omega);exact ae
 ·
  rw[QX h3];exact ae
def FJ{L:List ByteArray}{s:ByteArray}(hl:L.length<=140737488351232):Cl ah 124 [.t (.arr (L.map fun u=>[.str u])),.t (.str s)] [] (.t (.bool (L.any fun u=>decide (u=s)))) []:=by
 have G:(L.map fun u=>[AV.str u]).length=L.length:=by simp
 refine Cl.aq rfl Tryz.func124 rfl rfl rfl ?_;refine ak ?_;refine ax.ind (fun k:Nat=>[(5,.t (.int .i64 (k:Int)))]) (fun k=>k<=L.length/\(L.any fun u=>decide (u=s))=((L.drop k).any fun u=>decide (u=s))) (fun k=>L.length - k) 0 rfl ⟨by omega,rfl⟩ (fun k D=>?_);obtain⟨h1,h2⟩:=D;rw[h2];rcases Nat.lt_or_ge k L.length with h3|h3
 ·
  obtain⟨u,z⟩:=aj h3;have I:(L.map fun u=>[AV.str u])[k]?=some [.str u]:=by simp[z]
  have v:=oe (fun u=>decide (u=s)) z;by_cases y:u=s
  ·
   rw[v,decide_eq_true y];exact ae
  ·
   rw[decide_eq_false y,Bool.false_or]at v
   repeat'(first
|(refine aY ?_)
|(refine ar ?_)
|((with_reducible apply aa.u0);(case hx=>exact af))
|fail)
   exact⟨k+1,rfl,rfl,⟨by omega,by first|rw[v]|rw[h2,v]⟩,by omega⟩
 ·
  rw[od _ h3];exact ae
def FM(w:List UInt8):Cl ah 124 [.t (.arr (l6 cZ)),.t (.str (bs w))] [] (.t (.bool (decide (w∈cZ)))) []:=by
 have h:=FJ (L:=cZ.map bs) (s:=bs w) (by decide);have v:((cZ.map bs).map fun u=>[AV.str u])=l6 cZ:=by unfold l6;rw[List.map_map];rfl
 have y:((cZ.map bs).any fun u=>decide (u=bs w))=decide (w∈cZ):=by
  rw[Bool.eq_iff_iff];simp only[List.any_map,List.any_eq_true,Function.comp,decide_eq_true_eq];constructor
  ·rintro⟨x,z,e⟩;rw[<- q8 e];exact z
  ·intro h;exact⟨w,h,rfl⟩
 rwa[v,y]at h
def Pz{l:List UInt8}{q0:Nat}(hl:l.length<=1000000)(h0:q0 <l.length):Cl ah 196 [.t (.str (bs l)),.t (.int .i64 (q0:Int))] [] (.aJ [.t (.int .i64 (fL (l.drop q0)).1),.t (.int .i64 ((q0+(fL (l.drop q0)).2:Nat):Int))]) []:=by
 have au:(bs l).size=l.length:=e9 l;obtain⟨b,hb⟩:=aj h0;have kl:=AR b;have kd:=wS b;have z:=Rc hb;refine Cl.aq rfl Tryz.func196 rfl rfl rfl ?_
 cases h1:eO b with
 |true=>
  rw[h1]at kl;rw[if_pos h1]at z;rw[z];refine ak ?_;refine ax.ind (fun q:Nat=>[(6,.t (.int .i64 (q:Int)))]) (fun q=>q<=l.length/\q0<=q/\q+aQ cj (l.drop q)=q0+aQ cj (l.drop q0)) (fun q=>l.length - q) q0 rfl ⟨by omega,by omega,rfl⟩ (fun q hq=>?_);obtain⟨g1,g0,g2⟩:=hq
  have fin:∀q,q<=l.length->q0<=q->aQ cj (l.drop q)=0->q+aQ cj (l.drop q)=q0+aQ cj (l.drop q0)->(bs l).extract q0 q=bs ((l.drop q0).take (aQ cj (l.drop q0))):=fun q a1 a2 a3 a4=>by
   rw[ol,List.drop_take];congr 2;omega
  rcases Nat.lt_or_ge q l.length with g3|g3
  ·
   obtain⟨c,J⟩:=aj g3;have v:=AR c;have u:=wS c
   cases hp:cj c with
   |true=>
    have hs:=Gr J hp
    have ai:eO c=true\/(eO c=false/\b_ c=true)\/(eO c=false/\b_ c=false/\(c.toNat:Int)=95):=by
     simp only[cj,Bool.or_eq_true,decide_eq_true_eq]at hp
     cases U:eO c with
     |true=>exact .inl rfl
     |false=>
      cases e2:b_ c with
      |true=>exact .inr (.inl ⟨rfl,rfl⟩)
      |false=>rw[U,e2]at hp;simp at hp;exact .inr (.inr ⟨rfl,rfl,by omega⟩)
    rcases ai with e|⟨e,V⟩|⟨e,V,ad⟩
    ·
     rw[e]at v
     repeat'(first
|((with_reducible apply aa.aR);(case hp=>exact aA))
|(refine ar ?_)
|((with_reducible apply aa.aB);(case hW=>exact rfl);(case hx=>first
|((with_reducible apply ac.gV);(case hx|hi|hst=>exact rfl);(case h0=>omega);(case hb=>assumption))
|(exact ap v)
|exact af))
|((with_reducible apply aa.u0);(case hx=>exact af))
|fail)
     exact⟨q+1,rfl,rfl,⟨by omega,by omega,by omega⟩,by omega⟩
    ·
     rw[e]at v;rw[V]at u
     repeat'(first
|((with_reducible apply aa.aR);(case hp=>exact aA))
|(refine ar ?_)
|((with_reducible apply aa.aB);(case hW=>exact rfl);(case hx=>first
|((with_reducible apply ac.gV);(case hx|hi|hst=>exact rfl);(case h0=>omega);(case hb=>assumption))
|(exact ap v)
|(exact ap u)
|exact af))
|((with_reducible apply aa.u0);(case hx=>exact af))
|fail)
     exact⟨q+1,rfl,rfl,⟨by omega,by omega,by omega⟩,by omega⟩
    ·
     rw[e]at v;rw[V]at u
     repeat'(first
|(refine aY ?_)
|(refine ar ?_)
|((with_reducible apply aa.aB);(case hW=>exact rfl);(case hx=>first
|((with_reducible apply ac.gV);(case hx|hi|hst=>exact rfl);(case h0=>omega);(case hb=>assumption))
|(exact ap v)
|(exact ap u)
|exact af))
|((with_reducible apply aa.u0);(case hx=>exact af))
|fail)
     exact⟨q+1,rfl,rfl,⟨by omega,by omega,by omega⟩,by omega⟩
   |false=>
    have hs:=Gl J hp;simp only[cj,Bool.or_eq_false_iff,decide_eq_false_iff_not]at hp;obtain⟨e,V,ad⟩:=hp;have an:¬(c.toNat:Int)=95:=by omega
    rw[e]at v;rw[V]at u;have hx:=fin q g1 g0 hs g2;have y:q=q0+aQ cj (l.drop q0):=by omega
    have G:=FM ((l.drop q0).take (aQ cj (l.drop q0)));by_cases D:(l.drop q0).take (aQ cj (l.drop q0))∈cZ
    ·
     rw[if_pos D,<- y];rw[decide_eq_true D]at G
     repeat'(first
|(refine aY ?_)
|(refine ar ?_)
|((with_reducible apply aa.aB);(case hW=>exact rfl);(case hx=>first
|((with_reducible apply ac.gV);(case hx|hi|hst=>exact rfl);(case h0=>omega);(case hb=>assumption))
|(exact ap v)
|(exact ap u)
|exact af))
|((with_reducible apply aa.u0);(case hx=>first
|((with_reducible apply ac.ss);(case hst|hx|hl|hh=>exact rfl);(case hlh=>omega);(case hhs=>omega);(case hv=>exact hx))
|(exact gR we)
|(exact ap G)
|exact af))
|fail)
     exact⟨.inr rfl,rfl⟩
    ·
     rw[if_neg D,<- y];rw[decide_eq_false D]at G
     repeat'(first
|(refine aY ?_)
|(refine ar ?_)
|((with_reducible apply aa.aB);(case hW=>exact rfl);(case hx=>first
|((with_reducible apply ac.gV);(case hx|hi|hst=>exact rfl);(case h0=>omega);(case hb=>assumption))
|(exact ap v)
|(exact ap u)
|exact af))
|((with_reducible apply aa.u0);(case hx=>first
|((with_reducible apply ac.ss);(case hst|hx|hl|hh=>exact rfl);(case hlh=>omega);(case hhs=>omega);(case hv=>exact hx))
|(exact gR we)
|(exact ap G)
|exact af))
|fail)
     exact⟨.inr rfl,rfl⟩
  ·
   have hs:=Gj (p:=cj) g3;have hx:=fin q g1 g0 hs g2;have y:q=q0+aQ cj (l.drop q0):=by omega
   have G:=FM ((l.drop q0).take (aQ cj (l.drop q0)));by_cases D:(l.drop q0).take (aQ cj (l.drop q0))∈cZ
   ·
    rw[if_pos D,<- y];rw[decide_eq_true D]at G
    repeat'(first
|((with_reducible apply aa.cQ);(case hp=>exact aA))
|(refine ar ?_)
|((with_reducible apply aa.u0);(case hx=>first
|((with_reducible apply ac.ss);(case hst|hx|hl|hh=>exact rfl);(case hlh=>omega);(case hhs=>omega);(case hv=>exact hx))
|(exact gR we)
|(exact ap G)
|exact af))
|fail)
    exact⟨.inr rfl,rfl⟩
   ·
    rw[if_neg D,<- y];rw[decide_eq_false D]at G
    repeat'(first
|((with_reducible apply aa.cQ);(case hp=>exact aA))
|(refine ar ?_)
|((with_reducible apply aa.u0);(case hx=>first
|((with_reducible apply ac.ss);(case hst|hx|hl|hh=>exact rfl);(case hlh=>omega);(case hhs=>omega);(case hv=>exact hx))
|(exact gR we)
|(exact ap G)
|exact af))
|fail)
    exact⟨.inr rfl,rfl⟩
 |false=>
  rw[h1]at kl;rw[if_neg (by simp[h1])]at z
  cases h2:b_ b with
  |true=>
   rw[h2]at kd;rw[if_pos h2]at z;rw[z];refine ak ?_;refine ax.ind (fun q:Nat=>[(6,.t (.int .i64 (q:Int)))]) (fun q=>q<=l.length/\q0<=q/\q+aQ b_ (l.drop q)=q0+aQ b_ (l.drop q0)) (fun q=>l.length - q) q0 rfl ⟨by omega,by omega,rfl⟩ (fun q hq=>?_);obtain⟨g1,g0,g2⟩:=hq;rcases Nat.lt_or_ge q l.length with g3|g3
   ·
    obtain⟨c,J⟩:=aj g3;have u:=wS c
    cases hp:b_ c with
    |true=>
     have hs:=Gr J hp;rw[hp]at u
     repeat'(first
|((with_reducible apply aa.aR);(case hp=>exact aA))
|(refine ar ?_)
|((with_reducible apply aa.aB);(case hW=>exact rfl);(case hx=>first
|((with_reducible apply ac.gV);(case hx|hi|hst=>exact rfl);(case h0=>omega);(case hb=>assumption))
|(exact ap u)
|exact af))
|((with_reducible apply aa.u0);(case hx=>exact af))
|fail)
     exact⟨q+1,rfl,rfl,⟨by omega,by omega,by omega⟩,by omega⟩
    |false=>
     have hs:=Gl J hp;rw[hp]at u;have y:q=q0+aQ b_ (l.drop q0):=by omega
     rw[<- y];exact ae
   ·
    have hs:=Gj (p:=b_) g3;have y:q=q0+aQ b_ (l.drop q0):=by omega
    rw[<- y];exact ae
  |false=>
   rw[h2]at kd;rw[if_neg (by simp[h2])]at z;have ks:=Gg (q:=q0) hl (by omega);by_cases h3:0 <iy (l.drop q0)
   ·
    rw[if_pos h3]at z;rw[z];have ao:iy (l.drop q0)<=l.length - q0:=by have:=Bq qF (l.drop q0);simp at this;exact this
    exact ae
   ·
    rw[if_neg h3]at z;rw[z];have ag:iy (l.drop q0)=0:=by omega
    rw[ag]at ks;refine ak ?_;refine ax.ind (fun q:Nat=>[(6,.t (.int .i64 (q:Int)))]) (fun q=>q<=l.length/\q0<=q/\q+eX (l.drop q)=q0+eX (l.drop q0)) (fun q=>l.length - q) q0 rfl ⟨by omega,by omega,rfl⟩ (fun q hq=>?_);obtain⟨g1,g0,g2⟩:=hq;rcases Nat.lt_or_ge q l.length with g3|g3
    ·
     obtain⟨c,J⟩:=aj g3;have I:=Gv c;have v:=AR c;have u:=wS c;have ab:=Gg (q:=q) hl (by omega)
     cases hp:pn l q c with
     |true=>
      have hs:=R7 J hp;simp only[pn,Bool.and_eq_true,Bool.not_eq_true',decide_eq_false_iff_not,decide_eq_true_eq]at hp;obtain⟨⟨U,e2⟩,Z,e4,e5⟩:=hp;have al:¬(c.toNat:Int)=35:=by omega
      rw[U]at I;rw[Z]at v;rw[e4]at u;rw[e5]at ab
      repeat'(first
|(refine aY ?_)
|(refine ar ?_)
|((with_reducible apply aa.aB);(case hW=>exact rfl);(case hx=>first
|((with_reducible apply ac.gV);(case hx|hi|hst=>exact rfl);(case h0=>omega);(case hb=>assumption))
|(exact ap I)
|(exact ap v)
|(exact ap u)
|(exact ap ab)
|exact af))
|((with_reducible apply aa.u0);(case hx=>exact af))
|fail)
      exact⟨q+1,rfl,rfl,⟨by omega,by omega,by omega⟩,by omega⟩
     |false=>
      have hs:=R6 J hp;have y:q=q0+eX (l.drop q0):=by omega
      rw[<- y]
      cases U:dI c with
      |true=>
       rw[U]at I;exact ae
      |false=>
       rw[U]at I;by_cases e2:(c.toNat:Int)=35
       ·
        exact ae
       ·
        cases Z:eO c with
        |true=>
         rw[Z]at v;exact ae
        |false=>
         rw[Z]at v
         cases e4:b_ c with
         |true=>
          rw[e4]at u;exact ae
         |false=>
          rw[e4]at u
          have e5:¬iy (l.drop q)=0:=by
           intro h
           have:pn l q c=true:=by
            simp only[pn,Bool.and_eq_true,Bool.not_eq_true',decide_eq_false_iff_not,decide_eq_true_eq];exact⟨⟨U,by omega⟩,Z,e4,h⟩
           rw[hp]at this;cases this
          exact ae
    ·
     have hs:=R5 g3;have y:q=q0+eX (l.drop q0):=by omega
     rw[<- y];exact ae
end Go.Proofs.YtjolgbkkocjpgaaGreatDoor
