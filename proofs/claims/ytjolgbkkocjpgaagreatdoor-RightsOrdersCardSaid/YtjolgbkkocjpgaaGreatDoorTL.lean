/- Law 52: the texts of clocks. No condition. -/
import Derived.Test.YtjolgbkkocjpgaaGreatDoorTW
import Derived.Test.YtjolgbkkocjpgaaGreatDoorTS
import Derived.Test.YtjolgbkkocjpgaaGreatDoorTD
set_option linter.defProp false
set_option linter.unusedSimpArgs false
set_option linter.unusedVariables false
set_option linter.unusedSectionVars false
namespace Go.Proofs.YtjolgbkkocjpgaaGreatDoor
open Go.RowKit
set_option maxRecDepth 100000
set_option maxHeartbeats 4000000
def bs(l:List UInt8):ByteArray:=⟨l.toArray⟩
def eJ(l:List UInt8):(bs l).size=l.length:=by simp[bs,ByteArray.size]
set_option maxHeartbeats 16000000
def DI(s:ByteArray):bs s.data.toList=s:=by obtain⟨⟨l⟩⟩:=s;rfl
def qH{x y:List UInt8}(h:bs x=bs y):x=y:=by
 have:=congrArg (fun s:ByteArray=>s.data.toList) h;simpa[bs]using this
def vz{n u:Nat}(h:n<=1000000)(hb:u<=1000):ca n u=true:=by
 have:=Nat.mul_le_mul h hb;simp[ca];omega
def nZ(l:List UInt8)(i j:Nat):(bs l).extract i j=bs ((l.take j).drop i):=by
 apply ByteArray.ext;rw[ByteArray.data_extract];simp[bs,List.drop_take]
def za(b:UInt8):Cl ai 208 [.t (.int .u8 (b.toNat:Int))] [] (.t (.bool (ec b))) []:=by
 refine Cl.ao rfl Tryz.func208 rfl rfl rfl ?_
 repeat'(first
|(with_reducible apply ac.seq)
|((with_reducible apply ac.text);(try case hm=>exact rfl))
|(with_reducible apply ac.ret)
|((with_reducible apply aa.bc)<;>intro u)
|((with_reducible apply aa.bg)<;>intro u)
|(with_reducible apply aa.ap)
|((with_reducible apply aa.gf);(case hW=>exact rfl))
|((with_reducible apply aa.aD);(case hW=>exact rfl);(case hx=>exact ah))
|((with_reducible apply aa.u0);(case hx=>exact ah))
|fail)
 all_goals(refine aZ (.inr rfl) rfl ?_;unfold ec;first|(simp_all;done)|(simp_all;omega))
def vA(b:UInt8):Cl ai 209 [.t (.int .u8 (b.toNat:Int))] [] (.t (.bool (bR b))) []:=by
 refine Cl.ao rfl Tryz.func209 rfl rfl rfl ?_
 repeat'(first
|(with_reducible apply ac.seq)
|((with_reducible apply ac.text);(try case hm=>exact rfl))
|(with_reducible apply ac.ret)
|((with_reducible apply aa.bc)<;>intro u)
|((with_reducible apply aa.bg)<;>intro u)
|(with_reducible apply aa.ap)
|((with_reducible apply aa.gf);(case hW=>exact rfl))
|((with_reducible apply aa.aD);(case hW=>exact rfl);(case hx=>exact ah))
|((with_reducible apply aa.u0);(case hx=>exact ah))
|fail)
 all_goals(refine aZ (.inr rfl) rfl ?_;unfold bR;first|(simp_all;done)|(simp_all;omega))
def DJ(b:UInt8):Cl ai 207 [.t (.int .u8 (b.toNat:Int))] [] (.t (.bool (dp b))) []:=by
 refine Cl.ao rfl Tryz.func207 rfl rfl rfl ?_
 repeat'(first
|(with_reducible apply ac.seq)
|((with_reducible apply ac.text);(try case hm=>exact rfl))
|(with_reducible apply ac.ret)
|((with_reducible apply aa.bc)<;>intro u)
|((with_reducible apply aa.bg)<;>intro u)
|(with_reducible apply aa.ap)
|((with_reducible apply aa.gf);(case hW=>exact rfl))
|((with_reducible apply aa.aD);(case hW=>exact rfl);(case hx=>exact ah))
|((with_reducible apply aa.u0);(case hx=>exact ah))
|fail)
 all_goals(refine aZ (.inr rfl) rfl ?_;unfold dp;first|(simp_all;done)|(simp_all;omega))
def La{l:List UInt8}{q0:Nat}(hl:l.length<=1000000)(h0:q0<=l.length):Cl ai 195 [.t (.str (bs l)),.t (.int .i64 (q0:Int))] [] (.t (.int .i64 (cM l q0:Int))) []:=by
 have Z:(bs l).size=l.length:=eJ l;refine Cl.ao rfl Tryz.func195 rfl rfl rfl ?_;refine ar ?_;refine aC.ind (fun q:Nat=>[(1,.t (.int .i64 (q:Int)))]) (fun q=>q<=l.length/\q+aT false (l.drop q)=cM l q0) (fun q=>l.length - q) q0 rfl ⟨h0,rfl⟩ (fun q V=>?_);obtain⟨h1,h2⟩:=V;rcases Nat.lt_or_ge q l.length with h3|h3
 ·
  obtain⟨b,hb⟩:=am h3;have D:=DJ b
  cases y:dp b with
  |true=>
   rw[y]at D;have hn:¬(b.toNat:Int)=35:=by intro h;simp[dp]at y;omega
   have hs:=CD hb y;exact af
  |false=>
   rw[y]at D;by_cases J:(b.toNat:Int)=35
   ·
    have hs:=Js hb (by omega);refine ar ?_;refine aC.ind (fun p:Nat=>[(1,.t (.int .i64 (p:Int)))]) (fun p=>(p=q\/q <p)/\p<=l.length/\p+aT true (l.drop p)=cM l q0) (fun p=>l.length - p) q rfl ⟨.inl rfl,h1,by omega⟩ (fun p hp=>?_);obtain⟨g0,g1,g2⟩:=hp;rcases Nat.lt_or_ge p l.length with g3|g3
    ·
     obtain⟨G,u⟩:=am g3;by_cases I:(G.toNat:Int)=10
     ·
      have v:=Jr u (by omega)
      have U:p≠q:=by
       rintro rfl;rw[hb]at u;cases u;omega
      repeat'(first
|(with_reducible apply ac.seq)
|((with_reducible apply ac.text);(try case hm=>exact rfl))
|(with_reducible first|apply ac.exit|apply az|apply cR|apply bk|apply cS)
|((with_reducible apply ac.aH);(case hc=>exact rfl))
|((with_reducible apply aa.aE);(case hp=>exact aj))
|((with_reducible apply aa.fB);(case hp=>exact aj))
|(with_reducible apply aa.ap)
|((with_reducible apply aa.aD);(case hW=>exact rfl);(case hx=>first
|((with_reducible apply ae.gm);(case hx|hi|hst=>exact rfl);(case h0=>omega);(case hb=>assumption))
|exact ah))
|((with_reducible apply aa.u0);(case hx=>exact ah))
|fail)
      exact⟨p,rfl,rfl,⟨by omega,by omega⟩,by omega⟩
     ·
      have v:=CF u (by omega)
      repeat'(first
|(with_reducible first|apply ac.seq|apply ac.block)
|((with_reducible apply ac.text);(try case hm=>exact rfl))
|(with_reducible first|apply ac.skip|apply az)
|((with_reducible apply ac.aA);(case hc=>exact rfl))
|((with_reducible apply aa.aE);(case hp=>exact aj))
|((with_reducible apply aa.fQ);(case hp=>exact aj))
|(with_reducible first|apply aa.ap|apply aa.bj)
|((with_reducible apply aa.aD);(case hW=>exact rfl);(case hx=>first
|((with_reducible apply ae.gm);(case hx|hi|hst=>exact rfl);(case h0=>omega);(case hb=>assumption))
|exact ah))
|((with_reducible apply aa.u0);(case hx=>exact ah))
|fail)
      exact⟨p+1,rfl,rfl,⟨.inr (by omega),by omega,by omega⟩,by omega⟩
    ·
     have v:=uO true g3;have z:=uO false g3
     repeat'(first
|(with_reducible apply ac.seq)
|((with_reducible apply ac.text);(try case hm=>exact rfl))
|(with_reducible first|apply ac.exit|apply az|apply cR|apply bk|apply cS)
|((with_reducible apply ac.aH);(case hc=>exact rfl))
|((with_reducible apply aa.bC);(case hp=>exact aj))
|(with_reducible apply aa.ap)
|((with_reducible apply aa.gf);(case hW=>exact rfl))
|((with_reducible apply aa.u0);(case hx=>exact ah))
|fail)
     exact⟨p,rfl,rfl,⟨by omega,by omega⟩,by omega⟩
   ·
    have hs:=CE hb y (by omega);rw[<- h2,hs];exact af
 ·
  obtain rfl:q=l.length:=by omega
  have hs:=uO (l:=l) false (Nat.le_refl _);rw[<- h2,hs];exact af
def li(L:List (List UInt8)):List (List AV):=L.map fun w=>[.str (bs w)]
def DK(L:List (List UInt8)):(li L).length=L.length:=by simp[li]
def DL{L:List (List UInt8)}{k:Nat}{w:List UInt8}(h:L[k]?=some w):(li L)[k]?=some [.str (bs w)]:=by simp[li,h]
def Lc:Cl ai 216 [] [] (.tc (li pc)) []:=⟨5,by kernel_rfl⟩
def vB:Cl ai 210 [] [] (.tc (li cT)) []:=⟨5,by kernel_rfl⟩
def Ld{s:List UInt8}(h:s∈pc):1<=s.length/\s.length<=2:=by
 revert s;decide
def DM{l:List UInt8}{q:Nat}(hl:l.length<=1000000)(h0:q<=l.length):Cl ai 211 [.t (.str (bs l)),.t (.int .i64 (q:Int))] [] (.t (.int .i64 (gO (l.drop q):Int))) []:=by
 have Z:(bs l).size=l.length:=eJ l;have u:(li pc).length=18:=rfl;refine Cl.ao rfl Tryz.func211 rfl rfl rfl ?_;obtain⟨S,I⟩:∃S,pc=S:=⟨_,rfl⟩;have G:=Lc;have D:∀s∈S,1<=s.length/\s.length<=2:=fun s h=>Ld (I ▸ h);unfold gO;rw[I]at G u⊢;rw[DK]at u;have hL:=DK S;refine ar ?_;refine aC.ind (fun k:Nat=>[(6,.t (.int .i64 (k:Int)))]) (fun k=>k<=S.length/\eC S (l.drop q)=eC (S.drop k) (l.drop q)) (fun k=>S.length - k) 0 rfl ⟨by omega,rfl⟩ (fun k U=>?_);obtain⟨h1,h2⟩:=U;rw[h2];rcases Nat.lt_or_ge k S.length with h3|h3
 ·
  obtain⟨s,hs⟩:=am h3;have hc:=DL hs;have J:=D s (List.mem_of_getElem? hs);have V:(bs s).size=s.length:=eJ s;have hd:(l.drop q).length=l.length - q:=by simp
  by_cases h4:q+s.length<=l.length
  ·
   have hx:(bs l).extract q (q+s.length)=bs ((l.drop q).take s.length):=by rw[nZ,List.drop_take,Nat.add_sub_cancel_left]
   by_cases v:(l.drop q).take s.length=s
   ·
    have y:=JA (t:=l.drop q) hs ⟨by omega,v⟩;have z:bs ((l.drop q).take s.length)=bs s:=by rw[v]
    rw[y]
    repeat'(first
|(with_reducible first|apply ac.seq|apply ac.block)
|((with_reducible apply ac.text);(try case hm=>exact rfl))
|((with_reducible apply ac.drawn);(case hm=>exact rfl))
|(with_reducible first|apply ac.skip|apply ac.ret|apply az|apply aV|apply bq)
|((with_reducible apply ac.aA);(case hc=>exact rfl))
|((with_reducible apply aa.aE);(case hp=>exact aj))
|((with_reducible apply aa.cd);(case hp=>exact aj))
|(with_reducible apply aa.ap)
|((with_reducible apply aa.aD);(case hW=>exact rfl);(case hx=>first
|((with_reducible apply ae.qe);(case hst|hx|hl|hh=>exact rfl);(case hlh=>omega);(case hhs=>omega);(case hv=>exact hx))
|exact ah))
|((with_reducible apply aa.u0);(case hx=>exact ah))
|fail)
    exact⟨.inr rfl,rfl⟩
   ·
    have y:=CK (t:=l.drop q) hs (fun h=>v h.2);have z:¬bs ((l.drop q).take s.length)=bs s:=fun h=>v (qH h)
    repeat'(first
|(with_reducible first|apply ac.seq|apply ac.block)
|((with_reducible apply ac.text);(try case hm=>exact rfl))
|((with_reducible apply ac.drawn);(case hm=>exact rfl))
|(with_reducible first|apply ac.skip|apply az|apply bk)
|((with_reducible apply ac.aA);(case hc=>exact rfl))
|((with_reducible apply ac.aH);(case hc=>exact rfl))
|((with_reducible apply aa.aE);(case hp=>exact aj))
|((with_reducible apply aa.cA);(case hp=>exact aj))
|(with_reducible apply aa.ap)
|((with_reducible apply aa.aD);(case hW=>exact rfl);(case hx=>first
|((with_reducible apply ae.qe);(case hst|hx|hl|hh=>exact rfl);(case hlh=>omega);(case hhs=>omega);(case hv=>exact hx))
|exact ah))
|((with_reducible apply aa.u0);(case hx=>exact ah))
|fail)
    exact⟨k+1,rfl,rfl,⟨by omega,by omega⟩,by omega⟩
  ·
   have y:=CK (t:=l.drop q) hs (fun h=>by omega);exact af
 ·
  rw[JB h3];exact af
def DN{L:List ByteArray}{s:ByteArray}(hl:L.length<=140737488351232):Cl ai 124 [.t (.arr (L.map fun u=>[.str u])),.t (.str s)] [] (.t (.bool (L.any fun u=>decide (u=s)))) []:=by
 have G:(L.map fun u=>[AV.str u]).length=L.length:=by simp
 refine Cl.ao rfl Tryz.func124 rfl rfl rfl ?_;refine ar ?_;refine aC.ind (fun k:Nat=>[(5,.t (.int .i64 (k:Int)))]) (fun k=>k<=L.length/\(L.any fun u=>decide (u=s))=((L.drop k).any fun u=>decide (u=s))) (fun k=>L.length - k) 0 rfl ⟨by omega,rfl⟩ (fun k D=>?_);obtain⟨h1,h2⟩:=D;rw[h2];rcases Nat.lt_or_ge k L.length with h3|h3
 ·
  obtain⟨u,z⟩:=am h3;have hc:(L.map fun u=>[AV.str u])[k]?=some [.str u]:=by simp[z]
  have v:=sd (fun u=>decide (u=s)) z;by_cases y:u=s
  ·
   rw[v,decide_eq_true y];exact af
  ·
   rw[decide_eq_false y,Bool.false_or]at v
   repeat'(first
|(with_reducible first|apply ac.seq|apply ac.block)
|((with_reducible apply ac.text);(try case hm=>exact rfl))
|(with_reducible first|apply ac.skip|apply az|apply bk)
|((with_reducible apply ac.aA);(case hc=>exact rfl))
|((with_reducible apply ac.aH);(case hc=>exact rfl))
|((with_reducible apply aa.aE);(case hp=>exact aj))
|((with_reducible apply aa.bC);(case hp=>exact aj))
|(with_reducible apply aa.ap)
|((with_reducible apply aa.u0);(case hx=>exact ah))
|fail)
   exact⟨k+1,rfl,rfl,⟨by omega,by first|rw[v]|rw[h2,v]⟩,by omega⟩
 ·
  rw[sf _ h3];exact af
def DO(w:List UInt8):Cl ai 124 [.t (.arr (li cT)),.t (.str (bs w))] [] (.t (.bool (decide (w∈cT)))) []:=by
 have h:=DN (L:=cT.map bs) (s:=bs w) (by decide);have v:((cT.map bs).map fun u=>[AV.str u])=li cT:=by unfold li;rw[List.map_map];rfl
 have y:((cT.map bs).any fun u=>decide (u=bs w))=decide (w∈cT):=by
  rw[Bool.eq_iff_iff];simp only[List.any_map,List.any_eq_true,Function.comp,decide_eq_true_eq];constructor
  ·rintro⟨x,z,e⟩;rw[<- qH e];exact z
  ·intro h;exact⟨w,h,rfl⟩
 rwa[v,y]at h
def Le{l:List UInt8}{q0:Nat}(hl:l.length<=1000000)(h0:q0 <l.length):Cl ai 196 [.t (.str (bs l)),.t (.int .i64 (q0:Int))] [] (.aL [.t (.int .i64 (eS (l.drop q0)).1),.t (.int .i64 ((q0+(eS (l.drop q0)).2:Nat):Int))]) []:=by
 have aw:(bs l).size=l.length:=eJ l;obtain⟨b,hb⟩:=am h0;have kl:=za b;have kd:=vA b;have z:=Jw hb;refine Cl.ao rfl Tryz.func196 rfl rfl rfl ?_
 cases h1:ec b with
 |true=>
  rw[h1]at kl;rw[if_pos h1]at z;rw[z];refine ar ?_;refine aC.ind (fun q:Nat=>[(6,.t (.int .i64 (q:Int)))]) (fun q=>q<=l.length/\q0<=q/\q+aP b7 (l.drop q)=q0+aP b7 (l.drop q0)) (fun q=>l.length - q) q0 rfl ⟨by omega,by omega,rfl⟩ (fun q hq=>?_);obtain⟨g1,g0,g2⟩:=hq
  have fin:∀q,q<=l.length->q0<=q->aP b7 (l.drop q)=0->q+aP b7 (l.drop q)=q0+aP b7 (l.drop q0)->(bs l).extract q0 q=bs ((l.drop q0).take (aP b7 (l.drop q0))):=fun q a1 a2 a3 a4=>by
   rw[nZ,List.drop_take];congr 2;omega
  rcases Nat.lt_or_ge q l.length with g3|g3
  ·
   obtain⟨c,hc⟩:=am g3;have v:=za c;have u:=vA c
   cases hp:b7 c with
   |true=>
    have hs:=CG hc hp
    have ak:ec c=true\/(ec c=false/\bR c=true)\/(ec c=false/\bR c=false/\(c.toNat:Int)=95):=by
     simp only[b7,Bool.or_eq_true,decide_eq_true_eq]at hp
     cases J:ec c with
     |true=>exact .inl rfl
     |false=>
      cases e2:bR c with
      |true=>exact .inr (.inl ⟨rfl,rfl⟩)
      |false=>rw[J,e2]at hp;simp at hp;exact .inr (.inr ⟨rfl,rfl,by omega⟩)
    rcases ak with e|⟨e,U⟩|⟨e,U,ad⟩
    ·
     rw[e]at v
     repeat'(first
|(with_reducible first|apply ac.seq|apply ac.block)
|((with_reducible apply ac.text);(try case hm=>exact rfl))
|(with_reducible first|apply ac.skip|apply az)
|((with_reducible apply ac.aA);(case hc=>exact rfl))
|((with_reducible apply aa.aE);(case hp=>exact aj))
|(with_reducible first|apply aa.ap|apply aa.bj)
|((with_reducible apply aa.gf);(case hW=>exact rfl))
|((with_reducible apply aa.aD);(case hW=>exact rfl);(case hx=>first
|((with_reducible apply ae.gm);(case hx|hi|hst=>exact rfl);(case h0=>omega);(case hb=>assumption))
|(exact aq v)
|exact ah))
|((with_reducible apply aa.u0);(case hx=>exact ah))
|fail)
     exact⟨q+1,rfl,rfl,⟨by omega,by omega,by omega⟩,by omega⟩
    ·
     rw[e]at v;rw[U]at u
     repeat'(first
|(with_reducible first|apply ac.seq|apply ac.block)
|((with_reducible apply ac.text);(try case hm=>exact rfl))
|(with_reducible first|apply ac.skip|apply az)
|((with_reducible apply ac.aA);(case hc=>exact rfl))
|((with_reducible apply aa.aE);(case hp=>exact aj))
|(with_reducible first|apply aa.ap|apply aa.bj)
|((with_reducible apply aa.gf);(case hW=>exact rfl))
|((with_reducible apply aa.aD);(case hW=>exact rfl);(case hx=>first
|((with_reducible apply ae.gm);(case hx|hi|hst=>exact rfl);(case h0=>omega);(case hb=>assumption))
|(exact aq v)
|(exact aq u)
|exact ah))
|((with_reducible apply aa.u0);(case hx=>exact ah))
|fail)
     exact⟨q+1,rfl,rfl,⟨by omega,by omega,by omega⟩,by omega⟩
    ·
     rw[e]at v;rw[U]at u
     repeat'(first
|(with_reducible first|apply ac.seq|apply ac.block)
|((with_reducible apply ac.text);(try case hm=>exact rfl))
|(with_reducible first|apply ac.skip|apply az)
|((with_reducible apply ac.aA);(case hc=>exact rfl))
|((with_reducible apply aa.aE);(case hp=>exact aj))
|((with_reducible apply aa.cd);(case hp=>exact aj))
|(with_reducible first|apply aa.ap|apply aa.bj)
|((with_reducible apply aa.aD);(case hW=>exact rfl);(case hx=>first
|((with_reducible apply ae.gm);(case hx|hi|hst=>exact rfl);(case h0=>omega);(case hb=>assumption))
|(exact aq v)
|(exact aq u)
|exact ah))
|((with_reducible apply aa.u0);(case hx=>exact ah))
|fail)
     exact⟨q+1,rfl,rfl,⟨by omega,by omega,by omega⟩,by omega⟩
   |false=>
    have hs:=CH hc hp;simp only[b7,Bool.or_eq_false_iff,decide_eq_false_iff_not]at hp;obtain⟨e,U,ad⟩:=hp;have an:¬(c.toNat:Int)=95:=by omega
    rw[e]at v;rw[U]at u;have hx:=fin q g1 g0 hs g2;have y:q=q0+aP b7 (l.drop q0):=by omega
    have G:=DO ((l.drop q0).take (aP b7 (l.drop q0)));by_cases D:(l.drop q0).take (aP b7 (l.drop q0))∈cT
    ·
     rw[if_pos D,<- y];rw[decide_eq_true D]at G
     repeat'(first
|(with_reducible apply ac.seq)
|((with_reducible apply ac.text);(try case hm=>exact rfl))
|((with_reducible apply ac.drawn);(case hm=>exact rfl))
|(with_reducible first|apply ac.exit|apply ac.ret|apply az|apply cR|apply aV|apply cS)
|((with_reducible apply ac.aA);(case hc=>exact rfl))
|((with_reducible apply ac.aH);(case hc=>exact rfl))
|((with_reducible apply aa.aE);(case hp=>exact aj))
|((with_reducible apply aa.cA);(case hp=>exact aj))
|(with_reducible apply aa.ap)
|((with_reducible apply aa.aD);(case hW=>exact rfl);(case hx=>first
|((with_reducible apply ae.gm);(case hx|hi|hst=>exact rfl);(case h0=>omega);(case hb=>assumption))
|(exact aq v)
|(exact aq u)
|exact ah))
|((with_reducible apply aa.u0);(case hx=>first
|((with_reducible apply ae.qe);(case hst|hx|hl|hh=>exact rfl);(case hlh=>omega);(case hhs=>omega);(case hv=>exact hx))
|(exact qf vB)
|(exact aq G)
|exact ah))
|fail)
     exact⟨.inr rfl,rfl⟩
    ·
     rw[if_neg D,<- y];rw[decide_eq_false D]at G
     repeat'(first
|(with_reducible apply ac.seq)
|((with_reducible apply ac.text);(try case hm=>exact rfl))
|((with_reducible apply ac.drawn);(case hm=>exact rfl))
|(with_reducible first|apply ac.skip|apply ac.exit|apply ac.ret|apply az|apply cR|apply aV|apply cS)
|((with_reducible apply ac.aH);(case hc=>exact rfl))
|((with_reducible apply aa.aE);(case hp=>exact aj))
|((with_reducible apply aa.cA);(case hp=>exact aj))
|(with_reducible apply aa.ap)
|((with_reducible apply aa.aD);(case hW=>exact rfl);(case hx=>first
|((with_reducible apply ae.gm);(case hx|hi|hst=>exact rfl);(case h0=>omega);(case hb=>assumption))
|(exact aq v)
|(exact aq u)
|exact ah))
|((with_reducible apply aa.u0);(case hx=>first
|((with_reducible apply ae.qe);(case hst|hx|hl|hh=>exact rfl);(case hlh=>omega);(case hhs=>omega);(case hv=>exact hx))
|(exact qf vB)
|(exact aq G)
|exact ah))
|fail)
     exact⟨.inr rfl,rfl⟩
  ·
   have hs:=CI (p:=b7) g3;have hx:=fin q g1 g0 hs g2;have y:q=q0+aP b7 (l.drop q0):=by omega
   have G:=DO ((l.drop q0).take (aP b7 (l.drop q0)));by_cases D:(l.drop q0).take (aP b7 (l.drop q0))∈cT
   ·
    rw[if_pos D,<- y];rw[decide_eq_true D]at G
    repeat'(first
|(with_reducible apply ac.seq)
|((with_reducible apply ac.text);(try case hm=>exact rfl))
|((with_reducible apply ac.drawn);(case hm=>exact rfl))
|(with_reducible first|apply ac.exit|apply ac.ret|apply az|apply cR|apply aV|apply cS)
|((with_reducible apply ac.aA);(case hc=>exact rfl))
|((with_reducible apply ac.aH);(case hc=>exact rfl))
|((with_reducible apply aa.bC);(case hp=>exact aj))
|(with_reducible apply aa.ap)
|((with_reducible apply aa.gf);(case hW=>exact rfl))
|((with_reducible apply aa.u0);(case hx=>first
|((with_reducible apply ae.qe);(case hst|hx|hl|hh=>exact rfl);(case hlh=>omega);(case hhs=>omega);(case hv=>exact hx))
|(exact qf vB)
|(exact aq G)
|exact ah))
|fail)
    exact⟨.inr rfl,rfl⟩
   ·
    rw[if_neg D,<- y];rw[decide_eq_false D]at G
    repeat'(first
|(with_reducible apply ac.seq)
|((with_reducible apply ac.text);(try case hm=>exact rfl))
|((with_reducible apply ac.drawn);(case hm=>exact rfl))
|(with_reducible first|apply ac.skip|apply ac.exit|apply ac.ret|apply az|apply cR|apply aV|apply cS)
|((with_reducible apply ac.aH);(case hc=>exact rfl))
|((with_reducible apply aa.bC);(case hp=>exact aj))
|(with_reducible apply aa.ap)
|((with_reducible apply aa.gf);(case hW=>exact rfl))
|((with_reducible apply aa.u0);(case hx=>first
|((with_reducible apply ae.qe);(case hst|hx|hl|hh=>exact rfl);(case hlh=>omega);(case hhs=>omega);(case hv=>exact hx))
|(exact qf vB)
|(exact aq G)
|exact ah))
|fail)
    exact⟨.inr rfl,rfl⟩
 |false=>
  rw[h1]at kl;rw[if_neg (by simp[h1])]at z
  cases h2:bR b with
  |true=>
   rw[h2]at kd;rw[if_pos h2]at z;rw[z];refine ar ?_;refine aC.ind (fun q:Nat=>[(6,.t (.int .i64 (q:Int)))]) (fun q=>q<=l.length/\q0<=q/\q+aP bR (l.drop q)=q0+aP bR (l.drop q0)) (fun q=>l.length - q) q0 rfl ⟨by omega,by omega,rfl⟩ (fun q hq=>?_);obtain⟨g1,g0,g2⟩:=hq;rcases Nat.lt_or_ge q l.length with g3|g3
   ·
    obtain⟨c,hc⟩:=am g3;have u:=vA c
    cases hp:bR c with
    |true=>
     have hs:=CG hc hp;rw[hp]at u
     repeat'(first
|(with_reducible first|apply ac.seq|apply ac.block)
|((with_reducible apply ac.text);(try case hm=>exact rfl))
|(with_reducible first|apply ac.skip|apply az)
|((with_reducible apply ac.aA);(case hc=>exact rfl))
|((with_reducible apply aa.aE);(case hp=>exact aj))
|(with_reducible first|apply aa.ap|apply aa.bj)
|((with_reducible apply aa.aD);(case hW=>exact rfl);(case hx=>first
|((with_reducible apply ae.gm);(case hx|hi|hst=>exact rfl);(case h0=>omega);(case hb=>assumption))
|(exact aq u)
|exact ah))
|((with_reducible apply aa.u0);(case hx=>exact ah))
|fail)
     exact⟨q+1,rfl,rfl,⟨by omega,by omega,by omega⟩,by omega⟩
    |false=>
     have hs:=CH hc hp;rw[hp]at u;have y:q=q0+aP bR (l.drop q0):=by omega
     rw[<- y];exact af
   ·
    have hs:=CI (p:=bR) g3;have y:q=q0+aP bR (l.drop q0):=by omega
    rw[<- y];exact af
  |false=>
   rw[h2]at kd;rw[if_neg (by simp[h2])]at z;have ks:=DM (q:=q0) hl (by omega);by_cases h3:0 <gO (l.drop q0)
   ·
    rw[if_pos h3]at z;rw[z];have au:gO (l.drop q0)<=l.length - q0:=by have:=yp pc (l.drop q0);simp at this;exact this
    exact af
   ·
    rw[if_neg h3]at z;rw[z];have ag:gO (l.drop q0)=0:=by omega
    rw[ag]at ks;refine ar ?_;refine aC.ind (fun q:Nat=>[(6,.t (.int .i64 (q:Int)))]) (fun q=>q<=l.length/\q0<=q/\q+ed (l.drop q)=q0+ed (l.drop q0)) (fun q=>l.length - q) q0 rfl ⟨by omega,by omega,rfl⟩ (fun q hq=>?_);obtain⟨g1,g0,g2⟩:=hq;rcases Nat.lt_or_ge q l.length with g3|g3
    ·
     obtain⟨c,hc⟩:=am g3;have I:=DJ c;have v:=za c;have u:=vA c;have ab:=DM (q:=q) hl (by omega)
     cases hp:nM l q c with
     |true=>
      have hs:=Jt hc hp;simp only[nM,Bool.and_eq_true,Bool.not_eq_true',decide_eq_false_iff_not,decide_eq_true_eq]at hp;obtain⟨⟨J,e2⟩,V,Z,e5⟩:=hp;have al:¬(c.toNat:Int)=35:=by omega
      rw[J]at I;rw[V]at v;rw[Z]at u;rw[e5]at ab
      repeat'(first
|(with_reducible first|apply ac.seq|apply ac.block)
|((with_reducible apply ac.text);(try case hm=>exact rfl))
|(with_reducible first|apply ac.skip|apply az)
|((with_reducible apply ac.aA);(case hc=>exact rfl))
|((with_reducible apply aa.aE);(case hp=>exact aj))
|((with_reducible apply aa.cd);(case hp=>exact aj))
|((with_reducible apply aa.fQ);(case hp=>exact aj))
|(with_reducible first|apply aa.ap|apply aa.bj)
|((with_reducible apply aa.aD);(case hW=>exact rfl);(case hx=>first
|((with_reducible apply ae.gm);(case hx|hi|hst=>exact rfl);(case h0=>omega);(case hb=>assumption))
|(exact aq I)
|(exact aq v)
|(exact aq u)
|(exact aq ab)
|exact ah))
|((with_reducible apply aa.u0);(case hx=>exact ah))
|fail)
      exact⟨q+1,rfl,rfl,⟨by omega,by omega,by omega⟩,by omega⟩
     |false=>
      have hs:=Ju hc hp;have y:q=q0+ed (l.drop q0):=by omega
      rw[<- y]
      cases J:dp c with
      |true=>
       rw[J]at I;exact af
      |false=>
       rw[J]at I;by_cases e2:(c.toNat:Int)=35
       ·
        exact af
       ·
        cases V:ec c with
        |true=>
         rw[V]at v;exact af
        |false=>
         rw[V]at v
         cases Z:bR c with
         |true=>
          rw[Z]at u;exact af
         |false=>
          rw[Z]at u
          have e5:¬gO (l.drop q)=0:=by
           intro h
           have:nM l q c=true:=by
            simp only[nM,Bool.and_eq_true,Bool.not_eq_true',decide_eq_false_iff_not,decide_eq_true_eq];exact⟨⟨J,by omega⟩,V,Z,h⟩
           rw[hp]at this;cases this
          exact af
    ·
     have hs:=Jv g3;have y:q=q0+ed (l.drop q0):=by omega
     rw[<- y];exact af
end Go.Proofs.YtjolgbkkocjpgaaGreatDoor
