/- Law 52: the texts of clocks. No condition. -/
import Derived.Test.YtcgdbhlnkificaaGreatDoorTW
import Derived.Test.YtcgdbhlnkificaaGreatDoorTS
import Derived.Test.YtcgdbhlnkificaaGreatDoorTD
set_option linter.all false
namespace Go.Proofs.YtcgdbhlnkificaaGreatDoor
open Go.RowKit
set_option maxRecDepth 100000
set_option maxHeartbeats 4000000
def bs(l:List UInt8):ByteArray:=⟨l.toArray⟩
def eJ(l:List UInt8):(bs l).size=l.length:=by simp[bs,ByteArray.size]
set_option maxHeartbeats 16000000
def BA(s:ByteArray):bs s.data.toList=s:=by obtain⟨⟨l⟩⟩:=s;rfl
def qA{x y:List UInt8}(h:bs x=bs y):x=y:=by
 have:=congrArg (fun s:ByteArray=>s.data.toList) h;simpa[bs]using this
def oA{n u:Nat}(h:n<=1000000)(hb:u<=1000):cn n u=true:=by
 have:=Nat.mul_le_mul h hb;simp[cn];omega
def nS(l:List UInt8)(i j:Nat):(bs l).extract i j=bs ((l.take j).drop i):=by
 apply ByteArray.ext;rw[ByteArray.data_extract];simp[bs,List.drop_take]
def zU(b:UInt8):Cl aj 214 [.t (.int .u8 (b.toNat:Int))] [] (.t (.bool (eA b))) []:=by
 refine Cl.ap rfl Tryz.func214 rfl rfl rfl ?_
 repeat'(first
|((with_reducible apply aa.aX)<;>intro u)
|((with_reducible apply aa.bi)<;>intro u)
|(refine aw ?_)
|((with_reducible apply aa.av);(case hW=>exact rfl);(case hx=>exact ae))
|((with_reducible apply aa.u0);(case hx=>exact ae))
|fail)
 all_goals(refine ba (.inr rfl) rfl ?_;unfold eA;first|(simp_all;done)|(simp_all;omega))
def vV(b:UInt8):Cl aj 215 [.t (.int .u8 (b.toNat:Int))] [] (.t (.bool (bV b))) []:=by
 refine Cl.ap rfl Tryz.func215 rfl rfl rfl ?_
 repeat'(first
|((with_reducible apply aa.aX)<;>intro u)
|((with_reducible apply aa.bi)<;>intro u)
|(refine aw ?_)
|((with_reducible apply aa.av);(case hW=>exact rfl);(case hx=>exact ae))
|((with_reducible apply aa.u0);(case hx=>exact ae))
|fail)
 all_goals(refine ba (.inr rfl) rfl ?_;unfold bV;first|(simp_all;done)|(simp_all;omega))
def Fy(b:UInt8):Cl aj 213 [.t (.int .u8 (b.toNat:Int))] [] (.t (.bool (dz b))) []:=by
 refine Cl.ap rfl Tryz.func213 rfl rfl rfl ?_
 repeat'(first
|((with_reducible apply aa.aX)<;>intro u)
|((with_reducible apply aa.bi)<;>intro u)
|(refine aw ?_)
|((with_reducible apply aa.av);(case hW=>exact rfl);(case hx=>exact ae))
|((with_reducible apply aa.u0);(case hx=>exact ae))
|fail)
 all_goals(refine ba (.inr rfl) rfl ?_;unfold dz;first|(simp_all;done)|(simp_all;omega))
def NZ{l:List UInt8}{q0:Nat}(hl:l.length<=1000000)(h0:q0<=l.length):Cl aj 207 [.t (.str (bs l)),.t (.int .i64 (q0:Int))] [] (.t (.int .i64 (cF l q0:Int))) []:=by
 have Z:(bs l).size=l.length:=eJ l;refine Cl.ap rfl Tryz.func207 rfl rfl rfl ?_;refine aq ?_;refine az.ind (fun q:Nat=>[(1,.t (.int .i64 (q:Int)))]) (fun q=>q<=l.length/\q+aV false (l.drop q)=cF l q0) (fun q=>l.length - q) q0 rfl ⟨h0,rfl⟩ (fun q V=>?_);obtain⟨h1,h2⟩:=V;rcases Nat.lt_or_ge q l.length with h3|h3
 ·
  obtain⟨b,hb⟩:=am h3;have D:=Fy b
  cases y:dz b with
  |true=>
   rw[y]at D;have hn:¬(b.toNat:Int)=35:=by intro h;simp[dz]at y;omega
   have hs:=FW hb y;exact ah
  |false=>
   rw[y]at D;by_cases J:(b.toNat:Int)=35
   ·
    have hs:=Pb hb (by omega);refine aq ?_;refine az.ind (fun p:Nat=>[(1,.t (.int .i64 (p:Int)))]) (fun p=>(p=q\/q <p)/\p<=l.length/\p+aV true (l.drop p)=cF l q0) (fun p=>l.length - p) q rfl ⟨.inl rfl,h1,by omega⟩ (fun p hp=>?_);obtain⟨g0,g1,g2⟩:=hp;rcases Nat.lt_or_ge p l.length with g3|g3
    ·
     obtain⟨G,u⟩:=am g3;by_cases I:(G.toNat:Int)=10
     ·
      have v:=Pd u (by omega)
      have U:p≠q:=by
       rintro rfl;rw[hb]at u;cases u;omega
      repeat'(first
|(refine a8 ?_)
|(refine aw ?_)
|((with_reducible apply aa.av);(case hW=>exact rfl);(case hx=>first
|((with_reducible apply af.gN);(case hx|hi|hst=>exact rfl);(case h0=>omega);(case hb=>assumption))
|exact ae))
|((with_reducible apply aa.u0);(case hx=>exact ae))
|fail)
      exact⟨p,rfl,rfl,⟨by omega,by omega⟩,by omega⟩
     ·
      have v:=FT u (by omega)
      repeat'(first
|(refine a8 ?_)
|(refine aw ?_)
|((with_reducible apply aa.av);(case hW=>exact rfl);(case hx=>first
|((with_reducible apply af.gN);(case hx|hi|hst=>exact rfl);(case h0=>omega);(case hb=>assumption))
|exact ae))
|((with_reducible apply aa.u0);(case hx=>exact ae))
|fail)
      exact⟨p+1,rfl,rfl,⟨.inr (by omega),by omega,by omega⟩,by omega⟩
    ·
     have v:=wv true g3;have z:=wv false g3
     repeat'(first
|((with_reducible apply aa.bk);(case hp=>exact ak))
|(refine aw ?_)
|((with_reducible apply aa.u0);(case hx=>exact ae))
|fail)
     exact⟨p,rfl,rfl,⟨by omega,by omega⟩,by omega⟩
   ·
    have hs:=FU hb y (by omega);rw[<- h2,hs];exact ah
 ·
  obtain rfl:q=l.length:=by omega
  have hs:=wv (l:=l) false (Nat.le_refl _);rw[<- h2,hs];exact ah
def lT(L:List (List UInt8)):List (List AV):=L.map fun w=>[.str (bs w)]
def Ge(L:List (List UInt8)):(lT L).length=L.length:=by simp[lT]
def Gd{L:List (List UInt8)}{k:Nat}{w:List UInt8}(h:L[k]?=some w):(lT L)[k]?=some [.str (bs w)]:=by simp[lT,h]
def PH:Cl aj 222 [] [] (.tc (lT p_)) []:=⟨5,by kernel_rfl⟩
def vw:Cl aj 216 [] [] (.tc (lT cQ)) []:=⟨5,by kernel_rfl⟩
def PD{s:List UInt8}(h:s∈p_):1<=s.length/\s.length<=2:=by
 revert s;decide
def Fh{l:List UInt8}{q:Nat}(hl:l.length<=1000000)(h0:q<=l.length):Cl aj 217 [.t (.str (bs l)),.t (.int .i64 (q:Int))] [] (.t (.int .i64 (im (l.drop q):Int))) []:=by
 have Z:(bs l).size=l.length:=eJ l;have u:(lT p_).length=18:=rfl;refine Cl.ap rfl Tryz.func217 rfl rfl rfl ?_;obtain⟨S,I⟩:∃S,p_=S:=⟨_,rfl⟩;have G:=PH;have D:∀s∈S,1<=s.length/\s.length<=2:=fun s h=>PD (I ▸ h);unfold im;rw[I]at G u⊢;rw[Ge]at u;have hL:=Ge S;refine aq ?_;refine az.ind (fun k:Nat=>[(6,.t (.int .i64 (k:Int)))]) (fun k=>k<=S.length/\eS S (l.drop q)=eS (S.drop k) (l.drop q)) (fun k=>S.length - k) 0 rfl ⟨by omega,rfl⟩ (fun k U=>?_);obtain⟨h1,h2⟩:=U;rw[h2];rcases Nat.lt_or_ge k S.length with h3|h3
 ·
  obtain⟨s,hs⟩:=am h3;have hc:=Gd hs;have J:=D s (List.mem_of_getElem? hs);have V:(bs s).size=s.length:=eJ s;have hd:(l.drop q).length=l.length - q:=by simp
  by_cases h4:q+s.length<=l.length
  ·
   have hx:(bs l).extract q (q+s.length)=bs ((l.drop q).take s.length):=by rw[nS,List.drop_take,Nat.add_sub_cancel_left]
   by_cases v:(l.drop q).take s.length=s
   ·
    have y:=PG (t:=l.drop q) hs ⟨by omega,v⟩;have z:bs ((l.drop q).take s.length)=bs s:=by rw[v]
    rw[y]
    repeat'(first
|(refine a8 ?_)
|(refine aw ?_)
|((with_reducible apply aa.av);(case hW=>exact rfl);(case hx=>first
|((with_reducible apply af.rQ);(case hst|hx|hl|hh=>exact rfl);(case hlh=>omega);(case hhs=>omega);(case hv=>exact hx))
|exact ae))
|((with_reducible apply aa.u0);(case hx=>exact ae))
|fail)
    exact⟨.inr rfl,rfl⟩
   ·
    have y:=Gp (t:=l.drop q) hs (fun h=>v h.2);have z:¬bs ((l.drop q).take s.length)=bs s:=fun h=>v (qA h)
    repeat'(first
|(refine a8 ?_)
|(refine aw ?_)
|((with_reducible apply aa.av);(case hW=>exact rfl);(case hx=>first
|((with_reducible apply af.rQ);(case hst|hx|hl|hh=>exact rfl);(case hlh=>omega);(case hhs=>omega);(case hv=>exact hx))
|exact ae))
|((with_reducible apply aa.u0);(case hx=>exact ae))
|fail)
    exact⟨k+1,rfl,rfl,⟨by omega,by omega⟩,by omega⟩
  ·
   have y:=Gp (t:=l.drop q) hs (fun h=>by omega);exact ah
 ·
  rw[PF h3];exact ah
def EN{L:List ByteArray}{s:ByteArray}(hl:L.length<=140737488351232):Cl aj 158 [.t (.arr (L.map fun u=>[.str u])),.t (.str s)] [] (.t (.bool (L.any fun u=>decide (u=s)))) []:=by
 have G:(L.map fun u=>[AV.str u]).length=L.length:=by simp
 refine Cl.ap rfl Tryz.func158 rfl rfl rfl ?_;refine aq ?_;refine az.ind (fun k:Nat=>[(5,.t (.int .i64 (k:Int)))]) (fun k=>k<=L.length/\(L.any fun u=>decide (u=s))=((L.drop k).any fun u=>decide (u=s))) (fun k=>L.length - k) 0 rfl ⟨by omega,rfl⟩ (fun k D=>?_);obtain⟨h1,h2⟩:=D;rw[h2];rcases Nat.lt_or_ge k L.length with h3|h3
 ·
  obtain⟨u,z⟩:=am h3;have I:(L.map fun u=>[AV.str u])[k]?=some [.str u]:=by simp[z]
  have v:=o_ (fun u=>decide (u=s)) z;by_cases y:u=s
  ·
   rw[v,decide_eq_true y];exact ah
  ·
   rw[decide_eq_false y,Bool.false_or]at v
   repeat'(first
|(refine a8 ?_)
|(refine aw ?_)
|((with_reducible apply aa.u0);(case hx=>exact ae))
|fail)
   exact⟨k+1,rfl,rfl,⟨by omega,by first|rw[v]|rw[h2,v]⟩,by omega⟩
 ·
  rw[o9 _ h3];exact ah
def EQ(w:List UInt8):Cl aj 158 [.t (.arr (lT cQ)),.t (.str (bs w))] [] (.t (.bool (decide (w∈cQ)))) []:=by
 have h:=EN (L:=cQ.map bs) (s:=bs w) (by decide);have v:((cQ.map bs).map fun u=>[AV.str u])=lT cQ:=by unfold lT;rw[List.map_map];rfl
 have y:((cQ.map bs).any fun u=>decide (u=bs w))=decide (w∈cQ):=by
  rw[Bool.eq_iff_iff];simp only[List.any_map,List.any_eq_true,Function.comp,decide_eq_true_eq];constructor
  ·rintro⟨x,z,e⟩;rw[<- qA e];exact z
  ·intro h;exact⟨w,h,rfl⟩
 rwa[v,y]at h
def N2{l:List UInt8}{q0:Nat}(hl:l.length<=1000000)(h0:q0 <l.length):Cl aj 208 [.t (.str (bs l)),.t (.int .i64 (q0:Int))] [] (.aN [.t (.int .i64 (ff (l.drop q0)).1),.t (.int .i64 ((q0+(ff (l.drop q0)).2:Nat):Int))]) []:=by
 have ax:(bs l).size=l.length:=eJ l;obtain⟨b,hb⟩:=am h0;have kl:=zU b;have kd:=vV b;have z:=PV hb;refine Cl.ap rfl Tryz.func208 rfl rfl rfl ?_
 cases h1:eA b with
 |true=>
  rw[h1]at kl;rw[if_pos h1]at z;rw[z];refine aq ?_;refine az.ind (fun q:Nat=>[(6,.t (.int .i64 (q:Int)))]) (fun q=>q<=l.length/\q0<=q/\q+aP ca (l.drop q)=q0+aP ca (l.drop q0)) (fun q=>l.length - q) q0 rfl ⟨by omega,by omega,rfl⟩ (fun q hq=>?_);obtain⟨g1,g0,g2⟩:=hq
  have fin:∀q,q<=l.length->q0<=q->aP ca (l.drop q)=0->q+aP ca (l.drop q)=q0+aP ca (l.drop q0)->(bs l).extract q0 q=bs ((l.drop q0).take (aP ca (l.drop q0))):=fun q a1 a2 a3 a4=>by
   rw[nS,List.drop_take];congr 2;omega
  rcases Nat.lt_or_ge q l.length with g3|g3
  ·
   obtain⟨c,J⟩:=am g3;have v:=zU c;have u:=vV c
   cases hp:ca c with
   |true=>
    have hs:=Ft J hp
    have al:eA c=true\/(eA c=false/\bV c=true)\/(eA c=false/\bV c=false/\(c.toNat:Int)=95):=by
     simp only[ca,Bool.or_eq_true,decide_eq_true_eq]at hp
     cases U:eA c with
     |true=>exact .inl rfl
     |false=>
      cases e2:bV c with
      |true=>exact .inr (.inl ⟨rfl,rfl⟩)
      |false=>rw[U,e2]at hp;simp at hp;exact .inr (.inr ⟨rfl,rfl,by omega⟩)
    rcases al with e|⟨e,V⟩|⟨e,V,ad⟩
    ·
     rw[e]at v
     repeat'(first
|((with_reducible apply aa.aF);(case hp=>exact ak))
|(refine aw ?_)
|((with_reducible apply aa.av);(case hW=>exact rfl);(case hx=>first
|((with_reducible apply af.gN);(case hx|hi|hst=>exact rfl);(case h0=>omega);(case hb=>assumption))
|(exact ai v)
|exact ae))
|((with_reducible apply aa.u0);(case hx=>exact ae))
|fail)
     exact⟨q+1,rfl,rfl,⟨by omega,by omega,by omega⟩,by omega⟩
    ·
     rw[e]at v;rw[V]at u
     repeat'(first
|((with_reducible apply aa.aF);(case hp=>exact ak))
|(refine aw ?_)
|((with_reducible apply aa.av);(case hW=>exact rfl);(case hx=>first
|((with_reducible apply af.gN);(case hx|hi|hst=>exact rfl);(case h0=>omega);(case hb=>assumption))
|(exact ai v)
|(exact ai u)
|exact ae))
|((with_reducible apply aa.u0);(case hx=>exact ae))
|fail)
     exact⟨q+1,rfl,rfl,⟨by omega,by omega,by omega⟩,by omega⟩
    ·
     rw[e]at v;rw[V]at u
     repeat'(first
|(refine a8 ?_)
|(refine aw ?_)
|((with_reducible apply aa.av);(case hW=>exact rfl);(case hx=>first
|((with_reducible apply af.gN);(case hx|hi|hst=>exact rfl);(case h0=>omega);(case hb=>assumption))
|(exact ai v)
|(exact ai u)
|exact ae))
|((with_reducible apply aa.u0);(case hx=>exact ae))
|fail)
     exact⟨q+1,rfl,rfl,⟨by omega,by omega,by omega⟩,by omega⟩
   |false=>
    have hs:=Fm J hp;simp only[ca,Bool.or_eq_false_iff,decide_eq_false_iff_not]at hp;obtain⟨e,V,ad⟩:=hp;have ao:¬(c.toNat:Int)=95:=by omega
    rw[e]at v;rw[V]at u;have hx:=fin q g1 g0 hs g2;have y:q=q0+aP ca (l.drop q0):=by omega
    have G:=EQ ((l.drop q0).take (aP ca (l.drop q0)));by_cases D:(l.drop q0).take (aP ca (l.drop q0))∈cQ
    ·
     rw[if_pos D,<- y];rw[decide_eq_true D]at G
     repeat'(first
|(refine a8 ?_)
|(refine aw ?_)
|((with_reducible apply aa.av);(case hW=>exact rfl);(case hx=>first
|((with_reducible apply af.gN);(case hx|hi|hst=>exact rfl);(case h0=>omega);(case hb=>assumption))
|(exact ai v)
|(exact ai u)
|exact ae))
|((with_reducible apply aa.u0);(case hx=>first
|((with_reducible apply af.rQ);(case hst|hx|hl|hh=>exact rfl);(case hlh=>omega);(case hhs=>omega);(case hv=>exact hx))
|(exact di vw)
|(exact ai G)
|exact ae))
|fail)
     exact⟨.inr rfl,rfl⟩
    ·
     rw[if_neg D,<- y];rw[decide_eq_false D]at G
     repeat'(first
|(refine a8 ?_)
|(refine aw ?_)
|((with_reducible apply aa.av);(case hW=>exact rfl);(case hx=>first
|((with_reducible apply af.gN);(case hx|hi|hst=>exact rfl);(case h0=>omega);(case hb=>assumption))
|(exact ai v)
|(exact ai u)
|exact ae))
|((with_reducible apply aa.u0);(case hx=>first
|((with_reducible apply af.rQ);(case hst|hx|hl|hh=>exact rfl);(case hlh=>omega);(case hhs=>omega);(case hv=>exact hx))
|(exact di vw)
|(exact ai G)
|exact ae))
|fail)
     exact⟨.inr rfl,rfl⟩
  ·
   have hs:=Fk (p:=ca) g3;have hx:=fin q g1 g0 hs g2;have y:q=q0+aP ca (l.drop q0):=by omega
   have G:=EQ ((l.drop q0).take (aP ca (l.drop q0)));by_cases D:(l.drop q0).take (aP ca (l.drop q0))∈cQ
   ·
    rw[if_pos D,<- y];rw[decide_eq_true D]at G
    repeat'(first
|((with_reducible apply aa.bk);(case hp=>exact ak))
|(refine aw ?_)
|((with_reducible apply aa.u0);(case hx=>first
|((with_reducible apply af.rQ);(case hst|hx|hl|hh=>exact rfl);(case hlh=>omega);(case hhs=>omega);(case hv=>exact hx))
|(exact di vw)
|(exact ai G)
|exact ae))
|fail)
    exact⟨.inr rfl,rfl⟩
   ·
    rw[if_neg D,<- y];rw[decide_eq_false D]at G
    repeat'(first
|((with_reducible apply aa.bk);(case hp=>exact ak))
|(refine aw ?_)
|((with_reducible apply aa.u0);(case hx=>first
|((with_reducible apply af.rQ);(case hst|hx|hl|hh=>exact rfl);(case hlh=>omega);(case hhs=>omega);(case hv=>exact hx))
|(exact di vw)
|(exact ai G)
|exact ae))
|fail)
    exact⟨.inr rfl,rfl⟩
 |false=>
  rw[h1]at kl;rw[if_neg (by simp[h1])]at z
  cases h2:bV b with
  |true=>
   rw[h2]at kd;rw[if_pos h2]at z;rw[z];refine aq ?_;refine az.ind (fun q:Nat=>[(6,.t (.int .i64 (q:Int)))]) (fun q=>q<=l.length/\q0<=q/\q+aP bV (l.drop q)=q0+aP bV (l.drop q0)) (fun q=>l.length - q) q0 rfl ⟨by omega,by omega,rfl⟩ (fun q hq=>?_);obtain⟨g1,g0,g2⟩:=hq;rcases Nat.lt_or_ge q l.length with g3|g3
   ·
    obtain⟨c,J⟩:=am g3;have u:=vV c
    cases hp:bV c with
    |true=>
     have hs:=Ft J hp;rw[hp]at u
     repeat'(first
|((with_reducible apply aa.aF);(case hp=>exact ak))
|(refine aw ?_)
|((with_reducible apply aa.av);(case hW=>exact rfl);(case hx=>first
|((with_reducible apply af.gN);(case hx|hi|hst=>exact rfl);(case h0=>omega);(case hb=>assumption))
|(exact ai u)
|exact ae))
|((with_reducible apply aa.u0);(case hx=>exact ae))
|fail)
     exact⟨q+1,rfl,rfl,⟨by omega,by omega,by omega⟩,by omega⟩
    |false=>
     have hs:=Fm J hp;rw[hp]at u;have y:q=q0+aP bV (l.drop q0):=by omega
     rw[<- y];exact ah
   ·
    have hs:=Fk (p:=bV) g3;have y:q=q0+aP bV (l.drop q0):=by omega
    rw[<- y];exact ah
  |false=>
   rw[h2]at kd;rw[if_neg (by simp[h2])]at z;have ks:=Fh (q:=q0) hl (by omega);by_cases h3:0 <im (l.drop q0)
   ·
    rw[if_pos h3]at z;rw[z];have au:im (l.drop q0)<=l.length - q0:=by have:=AA p_ (l.drop q0);simp at this;exact this
    exact ah
   ·
    rw[if_neg h3]at z;rw[z];have ag:im (l.drop q0)=0:=by omega
    rw[ag]at ks;refine aq ?_;refine az.ind (fun q:Nat=>[(6,.t (.int .i64 (q:Int)))]) (fun q=>q<=l.length/\q0<=q/\q+eE (l.drop q)=q0+eE (l.drop q0)) (fun q=>l.length - q) q0 rfl ⟨by omega,by omega,rfl⟩ (fun q hq=>?_);obtain⟨g1,g0,g2⟩:=hq;rcases Nat.lt_or_ge q l.length with g3|g3
    ·
     obtain⟨c,J⟩:=am g3;have I:=Fy c;have v:=zU c;have u:=vV c;have ab:=Fh (q:=q) hl (by omega)
     cases hp:oZ l q c with
     |true=>
      have hs:=QB J hp;simp only[oZ,Bool.and_eq_true,Bool.not_eq_true',decide_eq_false_iff_not,decide_eq_true_eq]at hp;obtain⟨⟨U,e2⟩,Z,e4,e5⟩:=hp;have an:¬(c.toNat:Int)=35:=by omega
      rw[U]at I;rw[Z]at v;rw[e4]at u;rw[e5]at ab
      repeat'(first
|(refine a8 ?_)
|(refine aw ?_)
|((with_reducible apply aa.av);(case hW=>exact rfl);(case hx=>first
|((with_reducible apply af.gN);(case hx|hi|hst=>exact rfl);(case h0=>omega);(case hb=>assumption))
|(exact ai I)
|(exact ai v)
|(exact ai u)
|(exact ai ab)
|exact ae))
|((with_reducible apply aa.u0);(case hx=>exact ae))
|fail)
      exact⟨q+1,rfl,rfl,⟨by omega,by omega,by omega⟩,by omega⟩
     |false=>
      have hs:=QA J hp;have y:q=q0+eE (l.drop q0):=by omega
      rw[<- y]
      cases U:dz c with
      |true=>
       rw[U]at I;exact ah
      |false=>
       rw[U]at I;by_cases e2:(c.toNat:Int)=35
       ·
        exact ah
       ·
        cases Z:eA c with
        |true=>
         rw[Z]at v;exact ah
        |false=>
         rw[Z]at v
         cases e4:bV c with
         |true=>
          rw[e4]at u;exact ah
         |false=>
          rw[e4]at u
          have e5:¬im (l.drop q)=0:=by
           intro h
           have:oZ l q c=true:=by
            simp only[oZ,Bool.and_eq_true,Bool.not_eq_true',decide_eq_false_iff_not,decide_eq_true_eq];exact⟨⟨U,by omega⟩,Z,e4,h⟩
           rw[hp]at this;cases this
          exact ah
    ·
     have hs:=Qz g3;have y:q=q0+eE (l.drop q0):=by omega
     rw[<- y];exact ah
end Go.Proofs.YtcgdbhlnkificaaGreatDoor
