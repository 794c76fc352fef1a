/- The reference's tokens of a word,as contracts. No condition. -/
import Derived.Test.YtgbfedgghjcdcaaGreatDoorWV
import Derived.Test.YtgbfedgghjcdcaaGreatDoorTS
import Derived.Test.YtgbfedgghjcdcaaGreatDoorTD
set_option linter.all false
namespace Go.Proofs.YtgbfedgghjcdcaaGreatDoor
open Go.RowKit
set_option maxRecDepth 100000
set_option maxHeartbeats 16000000
def BU(s:ByteArray):bs s.data.toList=s:=by obtain⟨⟨l⟩⟩:=s;rfl
def wD{x y:List UInt8}(h:bs x=bs y):x=y:=by
 have:=congrArg (fun s:ByteArray=>s.data.toList) h;simpa[bs]using this
def yf{n u:Nat}(h:n<=1000000)(hb:u<=1000):bD n u=true:=by
 have:=Nat.mul_le_mul h hb;simp[bD];omega
def wC(l:List UInt8)(i j:Nat):(bs l).extract i j=bs ((l.take j).drop i):=by
 apply ByteArray.ext;rw[ByteArray.data_extract];simp[bs,List.drop_take]
def vk(b:UInt8):Cl ap 234 [.t (.int .u8 (b.toNat:Int))] [] (.t (.bool (fD b))) []:=by
 refine Cl.aE rfl Tryz.func234 rfl rfl rfl ?_
 repeat'(first
|(with_reducible apply aa.seq)
|((with_reducible apply aa.text);(try case hm=>exact rfl))
|(with_reducible apply aa.ret)
|((with_reducible apply ab.aU)<;>intro u)
|((with_reducible apply ab.a_)<;>intro u)
|(with_reducible apply ab.af)
|((with_reducible apply ab.gf);(case hW=>exact rfl))
|((with_reducible apply ab.au);(case hW=>exact rfl);(case hx=>exact ac))
|((with_reducible apply ab.u0);(case hx=>exact ac))
|fail)
 all_goals(refine aS (.inr rfl) rfl ?_;unfold fD;first|(simp_all;done)|(simp_all;omega))
def rG(b:UInt8):Cl ap 235 [.t (.int .u8 (b.toNat:Int))] [] (.t (.bool (dc b))) []:=by
 refine Cl.aE rfl Tryz.func235 rfl rfl rfl ?_
 repeat'(first
|(with_reducible apply aa.seq)
|((with_reducible apply aa.text);(try case hm=>exact rfl))
|(with_reducible apply aa.ret)
|((with_reducible apply ab.aU)<;>intro u)
|((with_reducible apply ab.a_)<;>intro u)
|(with_reducible apply ab.af)
|((with_reducible apply ab.gf);(case hW=>exact rfl))
|((with_reducible apply ab.au);(case hW=>exact rfl);(case hx=>exact ac))
|((with_reducible apply ab.u0);(case hx=>exact ac))
|fail)
 all_goals(refine aS (.inr rfl) rfl ?_;unfold dc;first|(simp_all;done)|(simp_all;omega))
def z7(b:UInt8):Cl ap 233 [.t (.int .u8 (b.toNat:Int))] [] (.t (.bool (ff b))) []:=by
 refine Cl.aE rfl Tryz.func233 rfl rfl rfl ?_
 repeat'(first
|(with_reducible apply aa.seq)
|((with_reducible apply aa.text);(try case hm=>exact rfl))
|(with_reducible apply aa.ret)
|((with_reducible apply ab.aU)<;>intro u)
|((with_reducible apply ab.a_)<;>intro u)
|(with_reducible apply ab.af)
|((with_reducible apply ab.gf);(case hW=>exact rfl))
|((with_reducible apply ab.au);(case hW=>exact rfl);(case hx=>exact ac))
|((with_reducible apply ab.u0);(case hx=>exact ac))
|fail)
 all_goals(refine aS (.inr rfl) rfl ?_;unfold ff;first|(simp_all;done)|(simp_all;omega))
def G4{l:List UInt8}{q0:Nat}(hl:l.length<=1000000)(h0:q0<=l.length):Cl ap 226 [.t (.str (bs l)),.t (.int .i64 (q0:Int))] [] (.t (.int .i64 (bV l q0:Int))) []:=by
 have U:(bs l).size=l.length:=kT l;refine Cl.aE rfl Tryz.func226 rfl rfl rfl ?_
 repeat'(first
|(with_reducible first|apply aa.seq|apply aa.block)
|((with_reducible apply aa.text);(try case hm=>exact rfl))
|(with_reducible apply ab.af)
|((with_reducible apply ab.u0);(case hx=>exact ac))
|fail)
 apply aa.aM
 case ho=>exact rfl
 case hp=>exact rfl
 case hl=>exact rfl
 case hs=>exact slt
 refine aI.ind (fun q:Nat=>[(1,.t (.int .i64 (q:Int)))]) (fun q=>q<=l.length/\q+bw false (l.drop q)=bV l q0) (fun q=>l.length - q) q0 rfl ⟨h0,rfl⟩ (fun q Q=>?_);obtain⟨h1,h2⟩:=Q;rcases Nat.lt_or_ge q l.length with h3|h3
 ·
  obtain⟨b,hb⟩:=av h3;have z:=z7 b
  cases y:ff b with
  |true=>
   rw[y]at z;have hn:¬(b.toNat:Int)=35:=by intro h;simp[ff]at y;omega
   have hs:=HR hb y
   repeat'(first
|(with_reducible first|apply aa.seq|apply aa.block)
|((with_reducible apply aa.text);(try case hm=>exact rfl))
|(with_reducible first|apply aa.skip|apply ai)
|((with_reducible apply aa.am);(case hc=>exact rfl))
|((with_reducible apply aa.ak);(case hc=>exact rfl))
|((with_reducible apply ab.ao);(case hp=>exact ae))
|((with_reducible apply ab.aw);(case hp=>exact ae))
|(with_reducible first|apply ab.af|apply ab.bM)
|((with_reducible apply ab.gf);(case hW=>exact rfl))
|((with_reducible apply ab.au);(case hW=>exact rfl);(case hx=>first
|((with_reducible apply ah.cZ);(case hx|hi|hst=>exact rfl);(case h0=>omega);(case hb=>assumption))
|(exact aj z)
|exact ac))
|((with_reducible apply ab.u0);(case hx=>first
|((with_reducible apply ah.cZ);(case hx|hi|hst=>exact rfl);(case h0=>omega);(case hb=>assumption))
|exact ac))
|fail)
   exact⟨q+1,rfl,rfl,⟨by omega,by omega⟩,by omega⟩
  |false=>
   rw[y]at z;by_cases J:(b.toNat:Int)=35
   ·
    have hs:=HM hb (by omega)
    repeat'(first
|(with_reducible first|apply aa.seq|apply aa.block)
|((with_reducible apply aa.text);(try case hm=>exact rfl))
|(with_reducible first|apply aa.skip|apply ai)
|((with_reducible apply aa.am);(case hc=>exact rfl))
|((with_reducible apply ab.ao);(case hp=>exact ae))
|((with_reducible apply ab.bh);(case hp=>exact ae))
|(with_reducible apply ab.af)
|((with_reducible apply ab.au);(case hW=>exact rfl);(case hx=>first
|((with_reducible apply ah.cZ);(case hx|hi|hst=>exact rfl);(case h0=>omega);(case hb=>assumption))
|(exact aj z)
|exact ac))
|((with_reducible apply ab.u0);(case hx=>first
|((with_reducible apply ah.cZ);(case hx|hi|hst=>exact rfl);(case h0=>omega);(case hb=>assumption))
|exact ac))
|fail)
    apply aa.aM
    case ho=>exact rfl
    case hp=>exact rfl
    case hl=>exact rfl
    case hs=>exact slt
    refine aI.ind (fun p:Nat=>[(1,.t (.int .i64 (p:Int)))]) (fun p=>(p=q\/q <p)/\p<=l.length/\p+bw true (l.drop p)=bV l q0) (fun p=>l.length - p) q rfl ⟨.inl rfl,h1,by omega⟩ (fun p hp=>?_);obtain⟨V,Z,g2⟩:=hp;rcases Nat.lt_or_ge p l.length with g3|g3
    ·
     obtain⟨G,u⟩:=av g3;by_cases I:(G.toNat:Int)=10
     ·
      have v:=HO u (by omega)
      have O:p≠q:=by
       rintro rfl;rw[hb]at u;cases u;omega
      repeat'(first
|(with_reducible apply aa.seq)
|((with_reducible apply aa.text);(try case hm=>exact rfl))
|(with_reducible first|apply aa.exit|apply ai|apply aA|apply aG|apply az)
|((with_reducible apply aa.ak);(case hc=>exact rfl))
|((with_reducible apply ab.ao);(case hp=>exact ae))
|((with_reducible apply ab.dF);(case hp=>exact ae))
|(with_reducible apply ab.af)
|((with_reducible apply ab.au);(case hW=>exact rfl);(case hx=>first
|((with_reducible apply ah.cZ);(case hx|hi|hst=>exact rfl);(case h0=>omega);(case hb=>assumption))
|exact ac))
|((with_reducible apply ab.u0);(case hx=>exact ac))
|fail)
      exact⟨p,rfl,rfl,⟨by omega,by omega⟩,by omega⟩
     ·
      have v:=Ah u (by omega)
      repeat'(first
|(with_reducible first|apply aa.seq|apply aa.block)
|((with_reducible apply aa.text);(try case hm=>exact rfl))
|(with_reducible first|apply aa.skip|apply ai)
|((with_reducible apply aa.am);(case hc=>exact rfl))
|((with_reducible apply ab.ao);(case hp=>exact ae))
|((with_reducible apply ab.dQ);(case hp=>exact ae))
|(with_reducible first|apply ab.af|apply ab.bM)
|((with_reducible apply ab.au);(case hW=>exact rfl);(case hx=>first
|((with_reducible apply ah.cZ);(case hx|hi|hst=>exact rfl);(case h0=>omega);(case hb=>assumption))
|exact ac))
|((with_reducible apply ab.u0);(case hx=>exact ac))
|fail)
      exact⟨p+1,rfl,rfl,⟨.inr (by omega),by omega,by omega⟩,by omega⟩
    ·
     have v:=vG true g3;have D:=vG false g3
     repeat'(first
|(with_reducible apply aa.seq)
|((with_reducible apply aa.text);(try case hm=>exact rfl))
|(with_reducible first|apply aa.exit|apply ai|apply aA|apply aG|apply az)
|((with_reducible apply aa.ak);(case hc=>exact rfl))
|((with_reducible apply ab.aw);(case hp=>exact ae))
|(with_reducible apply ab.af)
|((with_reducible apply ab.gf);(case hW=>exact rfl))
|((with_reducible apply ab.u0);(case hx=>exact ac))
|fail)
     exact⟨p,rfl,rfl,⟨by omega,by omega⟩,by omega⟩
   ·
    have hs:=HP hb y (by omega);rw[<- h2,hs]
    repeat'(first
|(with_reducible apply aa.seq)
|((with_reducible apply aa.text);(try case hm=>exact rfl))
|(with_reducible first|apply aa.exit|apply aa.ret|apply ai|apply aA|apply az)
|((with_reducible apply aa.ak);(case hc=>exact rfl))
|((with_reducible apply ab.ao);(case hp=>exact ae))
|((with_reducible apply ab.aV);(case hp=>exact ae))
|(with_reducible apply ab.af)
|((with_reducible apply ab.au);(case hW=>exact rfl);(case hx=>first
|((with_reducible apply ah.cZ);(case hx|hi|hst=>exact rfl);(case h0=>omega);(case hb=>assumption))
|(exact aj z)
|exact ac))
|((with_reducible apply ab.u0);(case hx=>exact ac))
|fail)
    exact⟨.inr rfl,rfl⟩
 ·
  obtain rfl:q=l.length:=by omega
  have hs:=vG (l:=l) false (Nat.le_refl _);rw[<- h2,hs]
  repeat'(first
|(with_reducible apply aa.seq)
|((with_reducible apply aa.text);(try case hm=>exact rfl))
|(with_reducible first|apply aa.exit|apply aa.ret|apply ai|apply aA|apply az)
|((with_reducible apply aa.ak);(case hc=>exact rfl))
|((with_reducible apply ab.aw);(case hp=>exact ae))
|(with_reducible apply ab.af)
|((with_reducible apply ab.gf);(case hW=>exact rfl))
|((with_reducible apply ab.u0);(case hx=>exact ac))
|fail)
  exact⟨.inr rfl,rfl⟩
def jP(L:List (List UInt8)):List (List AV):=L.map fun w=>[.str (bs w)]
def As(L:List (List UInt8)):(jP L).length=L.length:=by simp[jP]
def H8{L:List (List UInt8)}{k:Nat}{w:List UInt8}(h:L[k]?=some w):(jP L)[k]?=some [.str (bs w)]:=by simp[jP,h]
def Ie:Cl ap 238 [] [] (.tc (jP od)) []:=⟨5,by kernel_rfl⟩
def qX:Cl ap 236 [] [] (.tc (jP gM)) []:=⟨5,by kernel_rfl⟩
def Ia{s:List UInt8}(h:s∈od):1<=s.length/\s.length<=2:=by
 revert s;decide
def zO{l:List UInt8}{q:Nat}(hl:l.length<=1000000)(h0:q<=l.length):Cl ap 237 [.t (.str (bs l)),.t (.int .i64 (q:Int))] [] (.t (.int .i64 (fY (l.drop q):Int))) []:=by
 have U:(bs l).size=l.length:=kT l;have u:(jP od).length=18:=rfl;refine Cl.aE rfl Tryz.func237 rfl rfl rfl ?_;obtain⟨S,I⟩:∃S,od=S:=⟨_,rfl⟩;have v:=Ie;have G:∀s∈S,1<=s.length/\s.length<=2:=fun s h=>Ia (I ▸ h);unfold fY;rw[I]at v u⊢;rw[As]at u;have V:=As S
 repeat'(first
|(with_reducible first|apply aa.seq|apply aa.block)
|((with_reducible apply aa.text);(try case hm=>exact rfl))
|(with_reducible apply ab.af)
|((with_reducible apply ab.u0);(case hx=>first
|(exact bX v)
|exact ac))
|fail)
 apply aa.aM
 case ho=>exact rfl
 case hp=>exact rfl
 case hl=>exact rfl
 case hs=>exact slt
 refine aI.ind (fun k:Nat=>[(6,.t (.int .i64 (k:Int)))]) (fun k=>k<=S.length/\fX S (l.drop q)=fX (S.drop k) (l.drop q)) (fun k=>S.length - k) 0 rfl ⟨by omega,rfl⟩ (fun k O=>?_);obtain⟨h1,h2⟩:=O;rw[h2];rcases Nat.lt_or_ge k S.length with h3|h3
 ·
  obtain⟨s,hs⟩:=av h3;have hc:=H8 hs;have J:=G s (List.mem_of_getElem? hs);have Q:(bs s).size=s.length:=kT s;have Z:(l.drop q).length=l.length - q:=by simp
  by_cases h4:q+s.length<=l.length
  ·
   have hx:(bs l).extract q (q+s.length)=bs ((l.drop q).take s.length):=by rw[wC,List.drop_take,Nat.add_sub_cancel_left]
   by_cases y:(l.drop q).take s.length=s
   ·
    have z:=Ic (t:=l.drop q) hs ⟨by omega,y⟩;have D:bs ((l.drop q).take s.length)=bs s:=by rw[y]
    rw[z]
    repeat'(first
|(with_reducible first|apply aa.seq|apply aa.block)
|((with_reducible apply aa.text);(try case hm=>exact rfl))
|((with_reducible apply aa.drawn);(case hm=>exact rfl))
|(with_reducible first|apply aa.skip|apply aa.ret|apply ai|apply ay|apply aO)
|((with_reducible apply aa.am);(case hc=>exact rfl))
|((with_reducible apply ab.ao);(case hp=>exact ae))
|((with_reducible apply ab.bh);(case hp=>exact ae))
|(with_reducible apply ab.af)
|((with_reducible apply ab.au);(case hW=>exact rfl);(case hx=>first
|((with_reducible apply ah.n9);(case hst|hx|hl|hh=>exact rfl);(case hlh=>omega);(case hhs=>omega);(case hv=>exact hx))
|exact ac))
|((with_reducible apply ab.u0);(case hx=>exact ac))
|fail)
    exact⟨.inr rfl,rfl⟩
   ·
    have z:=Aw (t:=l.drop q) hs (fun h=>y h.2);have D:¬bs ((l.drop q).take s.length)=bs s:=fun h=>y (wD h)
    repeat'(first
|(with_reducible first|apply aa.seq|apply aa.block)
|((with_reducible apply aa.text);(try case hm=>exact rfl))
|((with_reducible apply aa.drawn);(case hm=>exact rfl))
|(with_reducible first|apply aa.skip|apply ai|apply aG)
|((with_reducible apply aa.am);(case hc=>exact rfl))
|((with_reducible apply aa.ak);(case hc=>exact rfl))
|((with_reducible apply ab.ao);(case hp=>exact ae))
|((with_reducible apply ab.aV);(case hp=>exact ae))
|(with_reducible apply ab.af)
|((with_reducible apply ab.au);(case hW=>exact rfl);(case hx=>first
|((with_reducible apply ah.n9);(case hst|hx|hl|hh=>exact rfl);(case hlh=>omega);(case hhs=>omega);(case hv=>exact hx))
|exact ac))
|((with_reducible apply ab.u0);(case hx=>exact ac))
|fail)
    exact⟨k+1,rfl,rfl,⟨by omega,by omega⟩,by omega⟩
  ·
   have z:=Aw (t:=l.drop q) hs (fun h=>by omega)
   repeat'(first
|(with_reducible first|apply aa.seq|apply aa.block)
|((with_reducible apply aa.text);(try case hm=>exact rfl))
|((with_reducible apply aa.drawn);(case hm=>exact rfl))
|(with_reducible first|apply aa.skip|apply ai|apply aG)
|((with_reducible apply aa.am);(case hc=>exact rfl))
|((with_reducible apply aa.ak);(case hc=>exact rfl))
|((with_reducible apply ab.ao);(case hp=>exact ae))
|((with_reducible apply ab.aw);(case hp=>exact ae))
|(with_reducible apply ab.af)
|((with_reducible apply ab.gf);(case hW=>exact rfl))
|((with_reducible apply ab.u0);(case hx=>exact ac))
|fail)
   exact⟨k+1,rfl,rfl,⟨by omega,by omega⟩,by omega⟩
 ·
  rw[Ib h3]
  repeat'(first
|(with_reducible apply aa.seq)
|((with_reducible apply aa.text);(try case hm=>exact rfl))
|(with_reducible first|apply aa.exit|apply aa.ret|apply ai|apply aA|apply az)
|((with_reducible apply aa.ak);(case hc=>exact rfl))
|((with_reducible apply ab.aw);(case hp=>exact ae))
|(with_reducible apply ab.af)
|((with_reducible apply ab.u0);(case hx=>exact ac))
|fail)
  exact⟨.inr rfl,rfl⟩
def zo{L:List ByteArray}{s:ByteArray}(hl:L.length<=140737488351232):Cl ap 143 [.t (.arr (L.map fun u=>[.str u])),.t (.str s)] [] (.t (.bool (L.any fun u=>decide (u=s)))) []:=by
 have G:(L.map fun u=>[AV.str u]).length=L.length:=by simp
 refine Cl.aE rfl Tryz.func143 rfl rfl rfl ?_
 repeat'(first
|(with_reducible first|apply aa.seq|apply aa.block)
|((with_reducible apply aa.text);(try case hm=>exact rfl))
|(with_reducible apply ab.af)
|((with_reducible apply ab.u0);(case hx=>exact ac))
|fail)
 apply aa.aM
 case ho=>exact rfl
 case hp=>exact rfl
 case hl=>exact rfl
 case hs=>exact slt
 refine aI.ind (fun k:Nat=>[(5,.t (.int .i64 (k:Int)))]) (fun k=>k<=L.length/\(L.any fun u=>decide (u=s))=((L.drop k).any fun u=>decide (u=s))) (fun k=>L.length - k) 0 rfl ⟨by omega,rfl⟩ (fun k D=>?_);obtain⟨h1,h2⟩:=D;rw[h2];rcases Nat.lt_or_ge k L.length with h3|h3
 ·
  obtain⟨u,z⟩:=av h3;have hc:(L.map fun u=>[AV.str u])[k]?=some [.str u]:=by simp[z]
  have v:=qf (fun u=>decide (u=s)) z;by_cases y:u=s
  ·
   rw[v,decide_eq_true y]
   repeat'(first
|(with_reducible first|apply aa.seq|apply aa.block)
|((with_reducible apply aa.text);(try case hm=>exact rfl))
|(with_reducible first|apply aa.skip|apply aa.ret|apply ai|apply ay|apply aO)
|((with_reducible apply aa.am);(case hc=>exact rfl))
|((with_reducible apply ab.ao);(case hp=>exact ae))
|(with_reducible apply ab.af)
|((with_reducible apply ab.u0);(case hx=>exact ac))
|fail)
   exact⟨.inr rfl,rfl⟩
  ·
   rw[decide_eq_false y,Bool.false_or]at v
   repeat'(first
|(with_reducible first|apply aa.seq|apply aa.block)
|((with_reducible apply aa.text);(try case hm=>exact rfl))
|(with_reducible first|apply aa.skip|apply ai|apply aG)
|((with_reducible apply aa.am);(case hc=>exact rfl))
|((with_reducible apply aa.ak);(case hc=>exact rfl))
|((with_reducible apply ab.ao);(case hp=>exact ae))
|((with_reducible apply ab.aw);(case hp=>exact ae))
|(with_reducible apply ab.af)
|((with_reducible apply ab.u0);(case hx=>exact ac))
|fail)
   exact⟨k+1,rfl,rfl,⟨by omega,by first|rw[v]|rw[h2,v]⟩,by omega⟩
 ·
  rw[qe _ h3]
  repeat'(first
|(with_reducible apply aa.seq)
|((with_reducible apply aa.text);(try case hm=>exact rfl))
|(with_reducible first|apply aa.exit|apply aa.ret|apply ai|apply aA|apply az)
|((with_reducible apply aa.ak);(case hc=>exact rfl))
|((with_reducible apply ab.aw);(case hp=>exact ae))
|(with_reducible apply ab.af)
|((with_reducible apply ab.u0);(case hx=>exact ac))
|fail)
  exact⟨.inr rfl,rfl⟩
def zq(w:List UInt8):Cl ap 143 [.t (.arr (jP gM)),.t (.str (bs w))] [] (.t (.bool (decide (w∈gM)))) []:=by
 have h:=zo (L:=gM.map bs) (s:=bs w) (by decide);have v:((gM.map bs).map fun u=>[AV.str u])=jP gM:=by unfold jP;rw[List.map_map];rfl
 have y:((gM.map bs).any fun u=>decide (u=bs w))=decide (w∈gM):=by
  rw[Bool.eq_iff_iff];simp only[List.any_map,List.any_eq_true,Function.comp,decide_eq_true_eq];constructor
  ·rintro⟨x,z,e⟩;rw[<- wD e];exact z
  ·intro h;exact⟨w,h,rfl⟩
 rwa[v,y]at h
def G7{l:List UInt8}{q0:Nat}(hl:l.length<=1000000)(h0:q0 <l.length):Cl ap 227 [.t (.str (bs l)),.t (.int .i64 (q0:Int))] [] (.aL [.t (.int .i64 (eC (l.drop q0)).1),.t (.int .i64 ((q0+(eC (l.drop q0)).2:Nat):Int))]) []:=by
 have aJ:(bs l).size=l.length:=kT l;obtain⟨b,hb⟩:=av h0;have Q:=vk b;have kd:=rG b;have D:=Io hb;refine Cl.aE rfl Tryz.func227 rfl rfl rfl ?_
 cases h1:fD b with
 |true=>
  rw[h1]at Q;rw[if_pos h1]at D;rw[D]
  repeat'(first
|(with_reducible first|apply aa.seq|apply aa.block)
|((with_reducible apply aa.text);(try case hm=>exact rfl))
|((with_reducible apply aa.am);(case hc=>exact rfl))
|(with_reducible apply ab.af)
|((with_reducible apply ab.u0);(case hx=>first
|((with_reducible apply ah.cZ);(case hx|hi|hst=>exact rfl);(case h0=>omega);(case hb=>assumption))
|(exact aj Q)
|exact ac))
|fail)
  apply aa.aM
  case ho=>exact rfl
  case hp=>exact rfl
  case hl=>exact rfl
  case hs=>exact slt
  refine aI.ind (fun q:Nat=>[(6,.t (.int .i64 (q:Int)))]) (fun q=>q<=l.length/\q0<=q/\q+bK cY (l.drop q)=q0+bK cY (l.drop q0)) (fun q=>l.length - q) q0 rfl ⟨by omega,by omega,rfl⟩ (fun q hq=>?_);obtain⟨g1,g0,g2⟩:=hq
  have fin:∀q,q<=l.length->q0<=q->bK cY (l.drop q)=0->q+bK cY (l.drop q)=q0+bK cY (l.drop q0)->(bs l).extract q0 q=bs ((l.drop q0).take (bK cY (l.drop q0))):=fun q a1 a2 a3 a4=>by
   rw[wC,List.drop_take];congr 2;omega
  rcases Nat.lt_or_ge q l.length with g3|g3
  ·
   obtain⟨c,hc⟩:=av g3;have v:=vk c;have u:=rG c
   cases hp:cY c with
   |true=>
    have hs:=zZ hc hp
    have al:fD c=true\/(fD c=false/\dc c=true)\/(fD c=false/\dc c=false/\(c.toNat:Int)=95):=by
     simp only[cY,Bool.or_eq_true,decide_eq_true_eq]at hp
     cases J:fD c with
     |true=>exact .inl rfl
     |false=>
      cases e2:dc c with
      |true=>exact .inr (.inl ⟨rfl,rfl⟩)
      |false=>rw[J,e2]at hp;simp at hp;exact .inr (.inr ⟨rfl,rfl,by omega⟩)
    rcases al with e|⟨e,U⟩|⟨e,U,ad⟩
    ·
     rw[e]at v
     repeat'(first
|(with_reducible first|apply aa.seq|apply aa.block)
|((with_reducible apply aa.text);(try case hm=>exact rfl))
|(with_reducible first|apply aa.skip|apply ai)
|((with_reducible apply aa.am);(case hc=>exact rfl))
|((with_reducible apply ab.ao);(case hp=>exact ae))
|(with_reducible first|apply ab.af|apply ab.bM)
|((with_reducible apply ab.gf);(case hW=>exact rfl))
|((with_reducible apply ab.au);(case hW=>exact rfl);(case hx=>first
|((with_reducible apply ah.cZ);(case hx|hi|hst=>exact rfl);(case h0=>omega);(case hb=>assumption))
|(exact aj v)
|exact ac))
|((with_reducible apply ab.u0);(case hx=>exact ac))
|fail)
     exact⟨q+1,rfl,rfl,⟨by omega,by omega,by omega⟩,by omega⟩
    ·
     rw[e]at v;rw[U]at u
     repeat'(first
|(with_reducible first|apply aa.seq|apply aa.block)
|((with_reducible apply aa.text);(try case hm=>exact rfl))
|(with_reducible first|apply aa.skip|apply ai)
|((with_reducible apply aa.am);(case hc=>exact rfl))
|((with_reducible apply ab.ao);(case hp=>exact ae))
|(with_reducible first|apply ab.af|apply ab.bM)
|((with_reducible apply ab.gf);(case hW=>exact rfl))
|((with_reducible apply ab.au);(case hW=>exact rfl);(case hx=>first
|((with_reducible apply ah.cZ);(case hx|hi|hst=>exact rfl);(case h0=>omega);(case hb=>assumption))
|(exact aj v)
|(exact aj u)
|exact ac))
|((with_reducible apply ab.u0);(case hx=>exact ac))
|fail)
     exact⟨q+1,rfl,rfl,⟨by omega,by omega,by omega⟩,by omega⟩
    ·
     rw[e]at v;rw[U]at u
     repeat'(first
|(with_reducible first|apply aa.seq|apply aa.block)
|((with_reducible apply aa.text);(try case hm=>exact rfl))
|(with_reducible first|apply aa.skip|apply ai)
|((with_reducible apply aa.am);(case hc=>exact rfl))
|((with_reducible apply ab.ao);(case hp=>exact ae))
|((with_reducible apply ab.bh);(case hp=>exact ae))
|(with_reducible first|apply ab.af|apply ab.bM)
|((with_reducible apply ab.au);(case hW=>exact rfl);(case hx=>first
|((with_reducible apply ah.cZ);(case hx|hi|hst=>exact rfl);(case h0=>omega);(case hb=>assumption))
|(exact aj v)
|(exact aj u)
|exact ac))
|((with_reducible apply ab.u0);(case hx=>exact ac))
|fail)
     exact⟨q+1,rfl,rfl,⟨by omega,by omega,by omega⟩,by omega⟩
   |false=>
    have hs:=zU hc hp;simp only[cY,Bool.or_eq_false_iff,decide_eq_false_iff_not]at hp;obtain⟨e,U,ad⟩:=hp;have aq:¬(c.toNat:Int)=95:=by omega
    rw[e]at v;rw[U]at u;have hx:=fin q g1 g0 hs g2;have y:q=q0+bK cY (l.drop q0):=by omega
    have I:=zq ((l.drop q0).take (bK cY (l.drop q0)));by_cases G:(l.drop q0).take (bK cY (l.drop q0))∈gM
    ·
     rw[if_pos G,<- y];rw[decide_eq_true G]at I
     repeat'(first
|(with_reducible apply aa.seq)
|((with_reducible apply aa.text);(try case hm=>exact rfl))
|((with_reducible apply aa.drawn);(case hm=>exact rfl))
|(with_reducible first|apply aa.exit|apply aa.ret|apply ai|apply aA|apply ay|apply az)
|((with_reducible apply aa.am);(case hc=>exact rfl))
|((with_reducible apply aa.ak);(case hc=>exact rfl))
|((with_reducible apply ab.ao);(case hp=>exact ae))
|((with_reducible apply ab.aV);(case hp=>exact ae))
|(with_reducible apply ab.af)
|((with_reducible apply ab.au);(case hW=>exact rfl);(case hx=>first
|((with_reducible apply ah.cZ);(case hx|hi|hst=>exact rfl);(case h0=>omega);(case hb=>assumption))
|(exact aj v)
|(exact aj u)
|exact ac))
|((with_reducible apply ab.u0);(case hx=>first
|((with_reducible apply ah.n9);(case hst|hx|hl|hh=>exact rfl);(case hlh=>omega);(case hhs=>omega);(case hv=>exact hx))
|(exact bX qX)
|(exact aj I)
|exact ac))
|fail)
     exact⟨.inr rfl,rfl⟩
    ·
     rw[if_neg G,<- y];rw[decide_eq_false G]at I
     repeat'(first
|(with_reducible apply aa.seq)
|((with_reducible apply aa.text);(try case hm=>exact rfl))
|((with_reducible apply aa.drawn);(case hm=>exact rfl))
|(with_reducible first|apply aa.skip|apply aa.exit|apply aa.ret|apply ai|apply aA|apply ay|apply az)
|((with_reducible apply aa.ak);(case hc=>exact rfl))
|((with_reducible apply ab.ao);(case hp=>exact ae))
|((with_reducible apply ab.aV);(case hp=>exact ae))
|(with_reducible apply ab.af)
|((with_reducible apply ab.au);(case hW=>exact rfl);(case hx=>first
|((with_reducible apply ah.cZ);(case hx|hi|hst=>exact rfl);(case h0=>omega);(case hb=>assumption))
|(exact aj v)
|(exact aj u)
|exact ac))
|((with_reducible apply ab.u0);(case hx=>first
|((with_reducible apply ah.n9);(case hst|hx|hl|hh=>exact rfl);(case hlh=>omega);(case hhs=>omega);(case hv=>exact hx))
|(exact bX qX)
|(exact aj I)
|exact ac))
|fail)
     exact⟨.inr rfl,rfl⟩
  ·
   have hs:=zS (p:=cY) g3;have hx:=fin q g1 g0 hs g2;have y:q=q0+bK cY (l.drop q0):=by omega
   have I:=zq ((l.drop q0).take (bK cY (l.drop q0)));by_cases G:(l.drop q0).take (bK cY (l.drop q0))∈gM
   ·
    rw[if_pos G,<- y];rw[decide_eq_true G]at I
    repeat'(first
|(with_reducible apply aa.seq)
|((with_reducible apply aa.text);(try case hm=>exact rfl))
|((with_reducible apply aa.drawn);(case hm=>exact rfl))
|(with_reducible first|apply aa.exit|apply aa.ret|apply ai|apply aA|apply ay|apply az)
|((with_reducible apply aa.am);(case hc=>exact rfl))
|((with_reducible apply aa.ak);(case hc=>exact rfl))
|((with_reducible apply ab.aw);(case hp=>exact ae))
|(with_reducible apply ab.af)
|((with_reducible apply ab.gf);(case hW=>exact rfl))
|((with_reducible apply ab.u0);(case hx=>first
|((with_reducible apply ah.n9);(case hst|hx|hl|hh=>exact rfl);(case hlh=>omega);(case hhs=>omega);(case hv=>exact hx))
|(exact bX qX)
|(exact aj I)
|exact ac))
|fail)
    exact⟨.inr rfl,rfl⟩
   ·
    rw[if_neg G,<- y];rw[decide_eq_false G]at I
    repeat'(first
|(with_reducible apply aa.seq)
|((with_reducible apply aa.text);(try case hm=>exact rfl))
|((with_reducible apply aa.drawn);(case hm=>exact rfl))
|(with_reducible first|apply aa.skip|apply aa.exit|apply aa.ret|apply ai|apply aA|apply ay|apply az)
|((with_reducible apply aa.ak);(case hc=>exact rfl))
|((with_reducible apply ab.aw);(case hp=>exact ae))
|(with_reducible apply ab.af)
|((with_reducible apply ab.gf);(case hW=>exact rfl))
|((with_reducible apply ab.u0);(case hx=>first
|((with_reducible apply ah.n9);(case hst|hx|hl|hh=>exact rfl);(case hlh=>omega);(case hhs=>omega);(case hv=>exact hx))
|(exact bX qX)
|(exact aj I)
|exact ac))
|fail)
    exact⟨.inr rfl,rfl⟩
 |false=>
  rw[h1]at Q;rw[if_neg (by simp[h1])]at D
  cases h2:dc b with
  |true=>
   rw[h2]at kd;rw[if_pos h2]at D;rw[D]
   repeat'(first
|(with_reducible first|apply aa.seq|apply aa.block)
|((with_reducible apply aa.text);(try case hm=>exact rfl))
|(with_reducible first|apply aa.skip|apply ai)
|((with_reducible apply aa.am);(case hc=>exact rfl))
|((with_reducible apply aa.ak);(case hc=>exact rfl))
|(with_reducible apply ab.af)
|((with_reducible apply ab.u0);(case hx=>first
|((with_reducible apply ah.cZ);(case hx|hi|hst=>exact rfl);(case h0=>omega);(case hb=>assumption))
|(exact aj Q)
|(exact aj kd)
|exact ac))
|fail)
   apply aa.aM
   case ho=>exact rfl
   case hp=>exact rfl
   case hl=>exact rfl
   case hs=>exact slt
   refine aI.ind (fun q:Nat=>[(6,.t (.int .i64 (q:Int)))]) (fun q=>q<=l.length/\q0<=q/\q+bK dc (l.drop q)=q0+bK dc (l.drop q0)) (fun q=>l.length - q) q0 rfl ⟨by omega,by omega,rfl⟩ (fun q hq=>?_);obtain⟨g1,g0,g2⟩:=hq;rcases Nat.lt_or_ge q l.length with g3|g3
   ·
    obtain⟨c,hc⟩:=av g3;have u:=rG c
    cases hp:dc c with
    |true=>
     have hs:=zZ hc hp;rw[hp]at u
     repeat'(first
|(with_reducible first|apply aa.seq|apply aa.block)
|((with_reducible apply aa.text);(try case hm=>exact rfl))
|(with_reducible first|apply aa.skip|apply ai)
|((with_reducible apply aa.am);(case hc=>exact rfl))
|((with_reducible apply ab.ao);(case hp=>exact ae))
|(with_reducible first|apply ab.af|apply ab.bM)
|((with_reducible apply ab.au);(case hW=>exact rfl);(case hx=>first
|((with_reducible apply ah.cZ);(case hx|hi|hst=>exact rfl);(case h0=>omega);(case hb=>assumption))
|(exact aj u)
|exact ac))
|((with_reducible apply ab.u0);(case hx=>exact ac))
|fail)
     exact⟨q+1,rfl,rfl,⟨by omega,by omega,by omega⟩,by omega⟩
    |false=>
     have hs:=zU hc hp;rw[hp]at u;have y:q=q0+bK dc (l.drop q0):=by omega
     rw[<- y]
     repeat'(first
|(with_reducible apply aa.seq)
|((with_reducible apply aa.text);(try case hm=>exact rfl))
|(with_reducible first|apply aa.exit|apply aa.ret|apply ai|apply aA|apply ay|apply az)
|((with_reducible apply aa.ak);(case hc=>exact rfl))
|((with_reducible apply ab.ao);(case hp=>exact ae))
|(with_reducible apply ab.af)
|((with_reducible apply ab.au);(case hW=>exact rfl);(case hx=>first
|((with_reducible apply ah.cZ);(case hx|hi|hst=>exact rfl);(case h0=>omega);(case hb=>assumption))
|(exact aj u)
|exact ac))
|((with_reducible apply ab.u0);(case hx=>exact ac))
|fail)
     exact⟨.inr rfl,rfl⟩
   ·
    have hs:=zS (p:=dc) g3;have y:q=q0+bK dc (l.drop q0):=by omega
    rw[<- y]
    repeat'(first
|(with_reducible apply aa.seq)
|((with_reducible apply aa.text);(try case hm=>exact rfl))
|(with_reducible first|apply aa.exit|apply aa.ret|apply ai|apply aA|apply ay|apply az)
|((with_reducible apply aa.ak);(case hc=>exact rfl))
|((with_reducible apply ab.aw);(case hp=>exact ae))
|(with_reducible apply ab.af)
|((with_reducible apply ab.gf);(case hW=>exact rfl))
|((with_reducible apply ab.u0);(case hx=>exact ac))
|fail)
    exact⟨.inr rfl,rfl⟩
  |false=>
   rw[h2]at kd;rw[if_neg (by simp[h2])]at D;have ks:=zO (q:=q0) hl (by omega);by_cases h3:0 <fY (l.drop q0)
   ·
    rw[if_pos h3]at D;rw[D];have aB:fY (l.drop q0)<=l.length - q0:=by have:=vP od (l.drop q0);simp at this;exact this
    repeat'(first
|(with_reducible apply aa.seq)
|((with_reducible apply aa.text);(try case hm=>exact rfl))
|(with_reducible first|apply aa.skip|apply aa.ret|apply ai|apply ay)
|((with_reducible apply aa.am);(case hc=>exact rfl))
|((with_reducible apply aa.ak);(case hc=>exact rfl))
|((with_reducible apply ab.ao);(case hp=>exact ae))
|(with_reducible apply ab.af)
|((with_reducible apply ab.u0);(case hx=>first
|((with_reducible apply ah.cZ);(case hx|hi|hst=>exact rfl);(case h0=>omega);(case hb=>assumption))
|(exact aj Q)
|(exact aj kd)
|(exact aj ks)
|exact ac))
|fail)
    exact⟨.inr rfl,rfl⟩
   ·
    rw[if_neg h3]at D;rw[D];have ag:fY (l.drop q0)=0:=by omega
    rw[ag]at ks
    repeat'(first
|(with_reducible first|apply aa.seq|apply aa.block)
|((with_reducible apply aa.text);(try case hm=>exact rfl))
|(with_reducible first|apply aa.skip|apply ai)
|((with_reducible apply aa.ak);(case hc=>exact rfl))
|((with_reducible apply ab.aw);(case hp=>exact ae))
|(with_reducible apply ab.af)
|((with_reducible apply ab.u0);(case hx=>first
|((with_reducible apply ah.cZ);(case hx|hi|hst=>exact rfl);(case h0=>omega);(case hb=>assumption))
|(exact aj Q)
|(exact aj kd)
|(exact aj ks)
|exact ac))
|fail)
    apply aa.aM
    case ho=>exact rfl
    case hp=>exact rfl
    case hl=>exact rfl
    case hs=>exact slt
    refine aI.ind (fun q:Nat=>[(6,.t (.int .i64 (q:Int)))]) (fun q=>q<=l.length/\q0<=q/\q+dS (l.drop q)=q0+dS (l.drop q0)) (fun q=>l.length - q) q0 rfl ⟨by omega,by omega,rfl⟩ (fun q hq=>?_);obtain⟨g1,g0,g2⟩:=hq;rcases Nat.lt_or_ge q l.length with g3|g3
    ·
     obtain⟨c,hc⟩:=av g3;have z:=z7 c;have v:=vk c;have u:=rG c;have O:=zO (q:=q) hl (by omega)
     cases hp:lA l q c with
     |true=>
      have hs:=Jn hc hp;simp only[lA,Bool.and_eq_true,Bool.not_eq_true',decide_eq_false_iff_not,decide_eq_true_eq]at hp;obtain⟨⟨J,e2⟩,V,Z,e5⟩:=hp;have an:¬(c.toNat:Int)=35:=by omega
      rw[J]at z;rw[V]at v;rw[Z]at u;rw[e5]at O
      repeat'(first
|(with_reducible first|apply aa.seq|apply aa.block)
|((with_reducible apply aa.text);(try case hm=>exact rfl))
|(with_reducible first|apply aa.skip|apply ai)
|((with_reducible apply aa.am);(case hc=>exact rfl))
|((with_reducible apply ab.ao);(case hp=>exact ae))
|((with_reducible apply ab.bh);(case hp=>exact ae))
|((with_reducible apply ab.dQ);(case hp=>exact ae))
|(with_reducible first|apply ab.af|apply ab.bM)
|((with_reducible apply ab.au);(case hW=>exact rfl);(case hx=>first
|((with_reducible apply ah.cZ);(case hx|hi|hst=>exact rfl);(case h0=>omega);(case hb=>assumption))
|(exact aj z)
|(exact aj v)
|(exact aj u)
|(exact aj O)
|exact ac))
|((with_reducible apply ab.u0);(case hx=>exact ac))
|fail)
      exact⟨q+1,rfl,rfl,⟨by omega,by omega,by omega⟩,by omega⟩
     |false=>
      have hs:=Jm hc hp;have y:q=q0+dS (l.drop q0):=by omega
      rw[<- y]
      cases J:ff c with
      |true=>
       rw[J]at z
       repeat'(first
|(with_reducible apply aa.seq)
|((with_reducible apply aa.text);(try case hm=>exact rfl))
|(with_reducible first|apply aa.exit|apply aa.ret|apply ai|apply aA|apply az)
|((with_reducible apply aa.ak);(case hc=>exact rfl))
|((with_reducible apply ab.ao);(case hp=>exact ae))
|(with_reducible apply ab.af)
|((with_reducible apply ab.gf);(case hW=>exact rfl))
|((with_reducible apply ab.au);(case hW=>exact rfl);(case hx=>first
|((with_reducible apply ah.cZ);(case hx|hi|hst=>exact rfl);(case h0=>omega);(case hb=>assumption))
|(exact aj z)
|exact ac))
|((with_reducible apply ab.u0);(case hx=>exact ac))
|fail)
       exact⟨.inr rfl,rfl⟩
      |false=>
       rw[J]at z;by_cases e2:(c.toNat:Int)=35
       ·
        repeat'(first
|(with_reducible apply aa.seq)
|((with_reducible apply aa.text);(try case hm=>exact rfl))
|(with_reducible first|apply aa.exit|apply aa.ret|apply ai|apply aA|apply az)
|((with_reducible apply aa.ak);(case hc=>exact rfl))
|((with_reducible apply ab.ao);(case hp=>exact ae))
|((with_reducible apply ab.dF);(case hp=>exact ae))
|(with_reducible apply ab.af)
|((with_reducible apply ab.gf);(case hW=>exact rfl))
|((with_reducible apply ab.au);(case hW=>exact rfl);(case hx=>first
|((with_reducible apply ah.cZ);(case hx|hi|hst=>exact rfl);(case h0=>omega);(case hb=>assumption))
|(exact aj z)
|exact ac))
|((with_reducible apply ab.u0);(case hx=>exact ac))
|fail)
        exact⟨.inr rfl,rfl⟩
       ·
        cases V:fD c with
        |true=>
         rw[V]at v
         repeat'(first
|(with_reducible apply aa.seq)
|((with_reducible apply aa.text);(try case hm=>exact rfl))
|(with_reducible first|apply aa.exit|apply aa.ret|apply ai|apply aA|apply az)
|((with_reducible apply aa.ak);(case hc=>exact rfl))
|((with_reducible apply ab.ao);(case hp=>exact ae))
|((with_reducible apply ab.dQ);(case hp=>exact ae))
|(with_reducible apply ab.af)
|((with_reducible apply ab.gf);(case hW=>exact rfl))
|((with_reducible apply ab.au);(case hW=>exact rfl);(case hx=>first
|((with_reducible apply ah.cZ);(case hx|hi|hst=>exact rfl);(case h0=>omega);(case hb=>assumption))
|(exact aj z)
|(exact aj v)
|exact ac))
|((with_reducible apply ab.u0);(case hx=>exact ac))
|fail)
         exact⟨.inr rfl,rfl⟩
        |false=>
         rw[V]at v
         cases Z:dc c with
         |true=>
          rw[Z]at u
          repeat'(first
|(with_reducible apply aa.seq)
|((with_reducible apply aa.text);(try case hm=>exact rfl))
|(with_reducible first|apply aa.exit|apply aa.ret|apply ai|apply aA|apply az)
|((with_reducible apply aa.ak);(case hc=>exact rfl))
|((with_reducible apply ab.ao);(case hp=>exact ae))
|((with_reducible apply ab.dQ);(case hp=>exact ae))
|(with_reducible apply ab.af)
|((with_reducible apply ab.gf);(case hW=>exact rfl))
|((with_reducible apply ab.au);(case hW=>exact rfl);(case hx=>first
|((with_reducible apply ah.cZ);(case hx|hi|hst=>exact rfl);(case h0=>omega);(case hb=>assumption))
|(exact aj z)
|(exact aj v)
|(exact aj u)
|exact ac))
|((with_reducible apply ab.u0);(case hx=>exact ac))
|fail)
          exact⟨.inr rfl,rfl⟩
         |false=>
          rw[Z]at u
          have e5:¬fY (l.drop q)=0:=by
           intro h
           have:lA l q c=true:=by
            simp only[lA,Bool.and_eq_true,Bool.not_eq_true',decide_eq_false_iff_not,decide_eq_true_eq];exact⟨⟨J,by omega⟩,V,Z,h⟩
           rw[hp]at this;cases this
          repeat'(first
|(with_reducible apply aa.seq)
|((with_reducible apply aa.text);(try case hm=>exact rfl))
|(with_reducible first|apply aa.exit|apply aa.ret|apply ai|apply aA|apply az)
|((with_reducible apply aa.ak);(case hc=>exact rfl))
|((with_reducible apply ab.ao);(case hp=>exact ae))
|((with_reducible apply ab.aV);(case hp=>exact ae))
|((with_reducible apply ab.dQ);(case hp=>exact ae))
|(with_reducible apply ab.af)
|((with_reducible apply ab.au);(case hW=>exact rfl);(case hx=>first
|((with_reducible apply ah.cZ);(case hx|hi|hst=>exact rfl);(case h0=>omega);(case hb=>assumption))
|(exact aj z)
|(exact aj v)
|(exact aj u)
|(exact aj O)
|exact ac))
|((with_reducible apply ab.u0);(case hx=>exact ac))
|fail)
          exact⟨.inr rfl,rfl⟩
    ·
     have hs:=Jl g3;have y:q=q0+dS (l.drop q0):=by omega
     rw[<- y]
     repeat'(first
|(with_reducible apply aa.seq)
|((with_reducible apply aa.text);(try case hm=>exact rfl))
|(with_reducible first|apply aa.exit|apply aa.ret|apply ai|apply aA|apply az)
|((with_reducible apply aa.ak);(case hc=>exact rfl))
|((with_reducible apply ab.aw);(case hp=>exact ae))
|(with_reducible apply ab.af)
|((with_reducible apply ab.gf);(case hW=>exact rfl))
|((with_reducible apply ab.u0);(case hx=>exact ac))
|fail)
     exact⟨.inr rfl,rfl⟩
end Go.Proofs.YtgbfedgghjcdcaaGreatDoor
