/- The tokens of texts as the code reads them:. No condition. -/
import Derived.Test.YtcgdbhlnkificaaGreatDoorTL
import Derived.Test.YtcgdbhlnkificaaGreatDoorTX
import Derived.Test.YtcgdbhlnkificaaGreatDoorTP
import Derived.Test.YtcgdbhlnkificaaGreatDoorTV
set_option linter.all false
namespace Go.Proofs.YtcgdbhlnkificaaGreatDoor
open Go.RowKit
set_option maxRecDepth 100000
set_option maxHeartbeats 16000000
def yQ(b:UInt8):Cl dP 200 [.t (.int .u8 (b.toNat:Int))] [] (.t (.bool (eA b))) []:=by
 refine Cl.ap rfl Tryz.func200 rfl rfl rfl ?_
 repeat'(first
|((with_reducible apply aa.aX)<;>intro u)
|((with_reducible apply aa.bi)<;>intro u)
|(refine aw ?_)
|((with_reducible apply aa.av);(case hW=>exact rfl);(case hx=>exact ae))
|((with_reducible apply aa.u0);(case hx=>exact ae))
|fail)
 all_goals(refine ba (.inr rfl) rfl ?_;unfold eA;first|(simp_all;done)|(simp_all;omega))
def vB(b:UInt8):Cl dP 203 [.t (.int .u8 (b.toNat:Int))] [] (.t (.bool (bV b))) []:=by
 refine Cl.ap rfl Tryz.func203 rfl rfl rfl ?_
 repeat'(first
|((with_reducible apply aa.aX)<;>intro u)
|((with_reducible apply aa.bi)<;>intro u)
|(refine aw ?_)
|((with_reducible apply aa.av);(case hW=>exact rfl);(case hx=>exact ae))
|((with_reducible apply aa.u0);(case hx=>exact ae))
|fail)
 all_goals(refine ba (.inr rfl) rfl ?_;unfold bV;first|(simp_all;done)|(simp_all;omega))
def DC(b:UInt8):Cl dP 205 [.t (.int .u8 (b.toNat:Int))] [] (.t (.bool (dz b))) []:=by
 refine Cl.ap rfl Tryz.func205 rfl rfl rfl ?_
 repeat'(first
|((with_reducible apply aa.aX)<;>intro u)
|((with_reducible apply aa.bi)<;>intro u)
|(refine aw ?_)
|((with_reducible apply aa.av);(case hW=>exact rfl);(case hx=>exact ae))
|((with_reducible apply aa.u0);(case hx=>exact ae))
|fail)
 all_goals(refine ba (.inr rfl) rfl ?_;unfold dz;first|(simp_all;done)|(simp_all;omega))
def Lk(b:UInt8):Cl dP 210 [.t (.int .u8 (b.toNat:Int))] [] (.t (.bool (dG b))) []:=by
 refine Cl.ap rfl Tryz.func210 rfl rfl rfl ?_
 repeat'(first
|((with_reducible apply aa.gA)<;>intro u)
|(refine aw ?_)
|((with_reducible apply aa.u0);(case hx=>exact ae))
|fail)
 all_goals(refine ba (.inr rfl) rfl ?_;unfold dG;first|(simp_all;done)|(simp_all;omega))
def Lu(b:UInt8):Cl dP 202 [.t (.int .u8 (b.toNat:Int))] [] (.t (.bool (ca b))) []:=by
 refine Cl.ap rfl Tryz.func202 rfl rfl rfl ?_;have u:=yQ b;have v:=vB b;unfold ca
 cases h1:eA b with
 |true=>
  rw[h1]at u;exact ah
 |false=>
  rw[h1]at u
  cases h2:bV b with
  |true=>
   rw[h2]at v;exact ah
  |false=>
   rw[h2]at v;exact ah
def N9{l:List UInt8}(hl:l.length<=1000000):Cl dP 201 [.t (.str (bs l)),.t (.fn (.func 202) 0 [])] [] (.t (.int .i64 (aP ca l:Int))) []:=by
 have D:(bs l).size=l.length:=eJ l;refine Cl.ap rfl Tryz.func201 rfl rfl rfl ?_;refine aq ?_;refine az.ind (fun q:Nat=>[(5,.t (.int .i64 (q:Int)))]) (fun q=>q<=l.length/\q+aP ca (l.drop q)=aP ca l) (fun q=>l.length - q) 0 rfl ⟨by omega,by simp⟩ (fun q z=>?_);obtain⟨h1,h2⟩:=z;rcases Nat.lt_or_ge q l.length with h3|h3
 ·
  obtain⟨b,y⟩:=am h3;have v:=Lu b;have hd:=bG y
  cases u:ca b with
  |true=>
   rw[u]at v;have e:aP ca (l.drop q)=aP ca (l.drop (q+1))+1:=by rw[hd,aP,if_pos u]
   exact ah
  |false=>
   rw[u]at v;have e:aP ca (l.drop q)=0:=by rw[hd,aP,if_neg (by simp[u])]
   rw[<- h2,e];exact ah
 ·
  obtain rfl:q=l.length:=by omega
  have e:aP ca (l.drop l.length)=0:=by rw[List.drop_length];rfl
  rw[<- h2,e];exact ah
def N7{l:List UInt8}(hl:l.length<=1000000):Cl dP 201 [.t (.str (bs l)),.t (.fn (.func 203) 0 [])] [] (.t (.int .i64 (aP bV l:Int))) []:=by
 have D:(bs l).size=l.length:=eJ l;refine Cl.ap rfl Tryz.func201 rfl rfl rfl ?_;refine aq ?_;refine az.ind (fun q:Nat=>[(5,.t (.int .i64 (q:Int)))]) (fun q=>q<=l.length/\q+aP bV (l.drop q)=aP bV l) (fun q=>l.length - q) 0 rfl ⟨by omega,by simp⟩ (fun q z=>?_);obtain⟨h1,h2⟩:=z;rcases Nat.lt_or_ge q l.length with h3|h3
 ·
  obtain⟨b,y⟩:=am h3;have v:=vB b;have hd:=bG y
  cases u:bV b with
  |true=>
   rw[u]at v;have e:aP bV (l.drop q)=aP bV (l.drop (q+1))+1:=by rw[hd,aP,if_pos u]
   exact ah
  |false=>
   rw[u]at v;have e:aP bV (l.drop q)=0:=by rw[hd,aP,if_neg (by simp[u])]
   rw[<- h2,e];exact ah
 ·
  obtain rfl:q=l.length:=by omega
  have e:aP bV (l.drop l.length)=0:=by rw[List.drop_length];rfl
  rw[<- h2,e];exact ah
def N8{l:List UInt8}(hl:l.length<=1000000):Cl dP 201 [.t (.str (bs l)),.t (.fn (.func 210) 0 [])] [] (.t (.int .i64 (aP dG l:Int))) []:=by
 have D:(bs l).size=l.length:=eJ l;refine Cl.ap rfl Tryz.func201 rfl rfl rfl ?_;refine aq ?_;refine az.ind (fun q:Nat=>[(5,.t (.int .i64 (q:Int)))]) (fun q=>q<=l.length/\q+aP dG (l.drop q)=aP dG l) (fun q=>l.length - q) 0 rfl ⟨by omega,by simp⟩ (fun q z=>?_);obtain⟨h1,h2⟩:=z;rcases Nat.lt_or_ge q l.length with h3|h3
 ·
  obtain⟨b,y⟩:=am h3;have v:=Lk b;have hd:=bG y
  cases u:dG b with
  |true=>
   rw[u]at v;have e:aP dG (l.drop q)=aP dG (l.drop (q+1))+1:=by rw[hd,aP,if_pos u]
   exact ah
  |false=>
   rw[u]at v;have e:aP dG (l.drop q)=0:=by rw[hd,aP,if_neg (by simp[u])]
   rw[<- h2,e];exact ah
 ·
  obtain rfl:q=l.length:=by omega
  have e:aP dG (l.drop l.length)=0:=by rw[List.drop_length];rfl
  rw[<- h2,e];exact ah
def Lv{l:List UInt8}(hl:l.length<=1000000):Cl dP 199 [.t (.str (bs l))] [] (.t (.int .i64 (aV false l:Int))) []:=by
 have z:(bs l).size=l.length:=eJ l;refine Cl.ap rfl Tryz.func199 rfl rfl rfl ?_;refine aq ?_;refine az.ind (fun q:Nat=>[(3,.t (.int .i64 (q:Int)))]) (fun q=>q<=l.length/\q+aV false (l.drop q)=aV false l) (fun q=>l.length - q) 0 rfl ⟨by omega,by simp⟩ (fun q I=>?_);obtain⟨h1,h2⟩:=I;rcases Nat.lt_or_ge q l.length with h3|h3
 ·
  obtain⟨b,hb⟩:=am h3;have D:=DC b;have hd:=bG hb
  cases v:dz b with
  |true=>
   rw[v]at D;have hs:=FW hb v;exact ah
  |false=>
   rw[v]at D;by_cases G:(b.toNat:Int)=35
   ·
    have hs:=Pe (r:=l.drop (q+1)) v (by omega);rw[<- hd,List.drop_drop]at hs;have y:=rI dG (l.drop q);rw[List.length_drop]at y
    have J:1<=aP dG (l.drop q):=by
     rw[hd,aP,if_pos (by simp[dG];omega)];omega
    have U:=N8 (l:=l.drop q) (by rw[List.length_drop];omega);have u:(bs l).extract q (bs l).size=bs (l.drop q):=by rw[nS,z,List.take_length]
    generalize aP dG (l.drop q)=n at*
    repeat'(first
|((with_reducible apply aa.aF);(case hp=>exact ak))
|(refine aw ?_)
|((with_reducible apply aa.u0);(case hx=>first
|((with_reducible apply af.gN);(case hx|hi|hst=>exact rfl);(case h0=>omega);(case hb=>assumption))
|((with_reducible apply af.tQ);(case hst|hx|hl=>exact rfl);(case h0=>omega);(case hls=>first|assumption|omega);(case hv=>exact u))
|(exact ai D)
|(exact ai U)
|exact ae))
|fail)
    exact⟨q+n,rfl,rfl,⟨by omega,by omega⟩,by omega⟩
   ·
    have hs:=FU hb v (by omega);rw[<- h2,hs];exact ah
 ·
  obtain rfl:q=l.length:=by omega
  have hs:=wv (l:=l) false (Nat.le_refl _);rw[<- h2,hs];exact ah
def K0{s p:List UInt8}(hs:s.length<=1000000)(hp:p.length<=1000000):Cl dP 220 [.t (.str (bs s)),.t (.str (bs p))] [] (.t (.bool (td p s))) []:=by
 have z:(bs s).size=s.length:=eJ s;have y:(bs p).size=p.length:=eJ p;refine Cl.ap rfl Tryz.func220 rfl rfl rfl ?_;by_cases h4:p.length<=s.length
 ·
  have hx:(bs s).extract 0 (bs p).size=bs (s.take p.length):=by rw[y,nS];rfl
  by_cases u:s.take p.length=p
  ·
   have v:bs (s.take p.length)=bs p:=by rw[u]
   have e:td p s=true:=by unfold td;simp[h4,u]
   rw[e]
   repeat'(first
|(refine a8 ?_)
|(refine aw ?_)
|((with_reducible apply aa.av);(case hW=>exact rfl);(case hx=>first
|((with_reducible apply af.ws);(case hst|hx|hh=>exact rfl);(case hhs=>first|assumption|omega);(case hv=>exact hx))
|exact ae))
|((with_reducible apply aa.u0);(case hx=>exact ae))
|fail)
   exact⟨.inr rfl,rfl⟩
  ·
   have v:¬bs (s.take p.length)=bs p:=fun h=>u (qA h);have e:td p s=false:=by unfold td;simp[u]
   rw[e]
   repeat'(first
|(refine a8 ?_)
|(refine aw ?_)
|((with_reducible apply aa.av);(case hW=>exact rfl);(case hx=>first
|((with_reducible apply af.ws);(case hst|hx|hh=>exact rfl);(case hhs=>first|assumption|omega);(case hv=>exact hx))
|exact ae))
|((with_reducible apply aa.u0);(case hx=>exact ae))
|fail)
   exact⟨.inr rfl,rfl⟩
 ·
  have e:td p s=false:=by unfold td;simp[h4]
  rw[e];exact ah
def K1{s p:List UInt8}(hs:s.length<=1000000)(hp:p.length<=1000000):Cl dP 211 [.t (.str (bs s)),.t (.str (bs p))] [] (.t (.bool (td p s))) []:=by
 have k:=K0 hs hp;refine Cl.ap rfl Tryz.func211 rfl rfl rfl ?_;exact ah
def K3{s:ByteArray}{b:UInt8}:Cl dP 212 [.t (.str s),.t (.int .u8 (b.toNat:Int))] [] (.t (.int .i64 (Lib.indexByte s.data.toList b))) []:=by
 refine Cl.ext (xs:=[.str s,.int .u8 (b.toNat:Int)]) rfl rfl ?_;have u:b.toNat <256:=b.toNat_lt;have e:(Nat.beq 212 212&&decide ((0:Int)<=(b.toNat:Int)/\(b.toNat:Int)<256))=true:=by simp;omega
 show(match Nat.beq 212 212&&decide ((0:Int)<=(b.toNat:Int)/\(b.toNat:Int)<256)with|true=>some (SV.t (.int .i64 (Lib.indexByte s.data.toList (UInt8.ofNat (b.toNat:Int).toNat))),([]:Fr))|false=>none)=_
 rw[e];simp
theorem CY:∀(l:List UInt8) (c:UInt8),0<=Lib.indexByte l c↔c∈l
 |[],c=>by simp[Lib.indexByte]
 |b::l,c=>by
  have v:=CY l c;have D:=Lib.indexByte_ge l c;unfold Lib.indexByte;by_cases h:b=c
  ·subst h;simp
  ·have y:(b==c)=false:=by simpa using h
   rw[y];simp only[Bool.false_eq_true,if_false];by_cases h2:Lib.indexByte l c= -1
   ·simp only[h2,beq_self_eq_true,if_true];have:¬c∈l:=fun z=>by have:=v.2 z;omega
    simp[this,Ne.symm h]
   ·have u:(Lib.indexByte l c== -1)=false:=by simpa using h2
    simp only[u,Bool.false_eq_true,if_false];have:c∈l:=v.1 (by omega);simp[this];omega
def DA{l:List UInt8}(hl:l.length<=1000000):Cl dP 204 [.t (.str (bs l))] [] (.t (.int .i64 (fA l:Int))) []:=by
 have V:(bs l).size=l.length:=eJ l;have J:(lT lW).length=5:=rfl;refine Cl.ap rfl Tryz.func204 rfl rfl rfl ?_
 repeat'(first
|(refine aw ?_)
|((with_reducible apply aa.u0);(case hx=>first
|((with_reducible apply(af.len (n:=5)));(case ha|hy|ht|hs|hn=>exact rfl))
|exact ae))
|fail)
 apply ac.cR
 case ho=>exact rfl
 case hp=>exact rfl
 case hl=>exact rfl
 case hs=>exact slt
 refine az.ind (fun k:Nat=>[(7,.t (.int .i64 (k:Int)))]) (fun k=>k<=5/\(lW.any fun s=>td s l)=((lW.drop k).any fun s=>td s l)) (fun k=>5 - k) 0 rfl ⟨by omega,rfl⟩ (fun k I=>?_);obtain⟨h1,h2⟩:=I;rcases Nat.lt_or_ge k 5 with h3|h3
 ·
  obtain⟨s,hs⟩:=am (xs:=lW) (k:=k) h3;have hc:=Gd hs
  have v:s.length<=1000000:=by
   have:∀x∈lW,x.length=2:=by decide
   rw[this s (List.mem_of_getElem? hs)];omega
  have z:=K1 (p:=s) hl v;have u:=o_ (fun s=>td s l) hs
  cases hp:td s l with
  |true=>
   rw[hp]at z;have e:fA l=2:=by unfold fA;rw[h2,u,hp];rfl
   rw[e];exact ah
  |false=>
   rw[hp]at z;have e:((lW.drop k).any fun s=>td s l)=((lW.drop (k+1)).any fun s=>td s l):=by rw[u,hp];rfl
   refine aq ?_;exact⟨k+1,rfl,rfl,⟨by omega,h2.trans e⟩,by omega⟩
 ·
  have u:=o9 (l:=lW) (fun s=>td s l) (show lW.length<=k from h3)
  cases l with
  |nil=>
   have e:fA []=0:=by unfold fA;rw[h2,u];rfl
   have G:bs ([]:List UInt8)=⟨#[]⟩:=rfl;rw[e];exact ah
  |cons b r=>
   have U:¬bs (b::r)=bs []:=fun h=>by have:=qA h;cases this
   have hb:(b::r)[0]?=some b:=rfl;have Z:=K3 (s:=bs lV) (b:=b);have y:=CY lV b;have hd:(bs lV).data.toList=lV:=rfl;rw[hd]at Z;have e:fA (b::r)=if b∈lV then 1 else 0:=by unfold fA;rw[h2,u];rfl
   by_cases hs:b∈lV
   ·
    have D:=y.2 hs;rw[e,if_pos hs];generalize Lib.indexByte lV b=n at*
    exact ah
   ·
    have D:¬0<=Lib.indexByte lV b:=fun h=>hs (y.1 h);rw[e,if_neg hs];generalize Lib.indexByte lV b=n at*
    exact ah
def KP{b:UInt8}{r:List UInt8}(hl:(b::r).length<=1000000):Cl dP 206 [.t (.str (bs (b::r)))] [] (.t (.bool (pe b r))) []:=by
 have z:(bs (b::r)).size=(b::r).length:=eJ _;have D:(b::r)[0]?=some b:=rfl;have u:(b::r).length=r.length+1:=rfl;have v:=yQ b;have y:=vB b;have G:=DA hl;refine Cl.ap rfl Tryz.func206 rfl rfl rfl ?_;unfold pe
 cases h1:eA b with
 |true=>
  rw[h1]at v;exact ah
 |false=>
  rw[h1]at v
  cases h2:bV b with
  |true=>
   rw[h2]at y;exact ah
  |false=>
   rw[h2]at y;by_cases h3:0 <fA (b::r)
   ·
    rw[decide_eq_true h3];exact ah
   ·
    rw[decide_eq_false h3];exact ah
def jF:List AV:=cQ.map fun w=>.str ⟨w.toArray⟩
def iC:List AV:=cQ.map fun _=>.bool true
def Lh:Cl aj 197 [] [] (.lm 0) [.map false jF (iC.map .t)]:=⟨60,by kernel_rfl⟩
def Lw(l:List UInt8):Cl aj 189 [.t (.str (bs l))] [] (.fn (.func 198) 0 [.lp 0 0,.lp 1 0]) [.box false 9 [.t (.str (bs l))],.box false 197 [.t (.mp jF iC)]]:=by
 have k:=Lh;refine Cl.ap rfl Tryz.func189 rfl rfl rfl ?_;exact ah
def KD:px cQ jF iC=true:=by kernel_rfl
def On{l:List UInt8}(hl:l.length<=1000000):aj.seq 198 [.tp [.str (bs l)],.tp [.mp jF iC]]=some ([oV l],false):=by
 have h2:Nat.ble (bs l).size 1000000=true:=by rw[eJ,Nat.ble_eq];omega
 have e:(px cQ jF iC&&Nat.ble (bs l).size 1000000)=true:=by rw[KD,h2];rfl
 show(match(match px cQ jF iC&&Nat.ble (bs l).size 1000000 with|true=>some ([oV (bs l).data.toList],false)|false=>none)with|some r=>some r|none=>Ai 198 [.tp [.str (bs l)],.tp [.mp jF iC]])=_
 rw[e];rfl
def o5.LN{g:Cfg}{f:Nat}{asg body:Code}{env:Env}{fr:Fr}{K:Out->Env->Fr->Prop}{u:List Nat}{y:List AV}{bs:Fr}(F:Fr)(hl:Nat.beq y.length u.length=true)(hb:dX fr (List.range fr.length)=some bs)(v:(bs.map fun b=>cU (b.sub (bc (List.range fr.length))))=F)
  (h:ac g f asg (oK u y fun t=>(env t).sub (bc (List.range fr.length))) F fun o e r=>o=.normal/\ac g f body e r (E3 (g.lv f (cX body)) env fr K)):o5 g f u asg body y env fr K:=by
 subst v;exact o5.mk hl hb h
def Li{l:List UInt8}(hl:l.length<=1000000):Cl aj 172 [.t (.str (bs l))] [] (.t (.int .i64 (ot l))) []:=by
 have U:(bs l).size=l.length:=eJ l;have kt:=Lw l;have D:=On hl;refine Cl.ap rfl Tryz.func172 rfl rfl rfl ?_;by_cases G:l.length=0
 ·
  obtain rfl:l=[]:=List.length_eq_zero_iff.1 G;have I:bs ([]:List UInt8)=⟨#[]⟩:=rfl;have e:ot []=0:=rfl;rw[e];exact ah
 ·
  have J:¬bs l=⟨#[]⟩:=fun h=>by
   have:(bs l).size=0:=by rw[h];rfl
   omega
  by_cases h1:4096 <l.length
  ·
   have e:ot l=0:=by unfold ot;rw[if_pos (.inr h1)]
   rw[e];exact ah
  ·
   have e:ot l=if aV false l=0/\aV false l+(gD (l.drop (aV false l))).2=l.length then(gD (l.drop (aV false l))).1 else 0:=by unfold ot;rw[if_neg (by omega)]
   rw[e];obtain⟨n,z⟩:∃n,aV false l=n:=⟨_,rfl⟩;obtain⟨T,y⟩:∃T,gD (l.drop (aV false l))=T:=⟨_,rfl⟩;have Z:oV l=[.agg [.int .i64 T.1,.int .i64 0,.int .i64 (n:Int),.int .i64 ((n+T.2:Nat):Int)]]:=by unfold oV;rw[y,z]
   rw[Z]at D;rw[z]at y;rw[z,y];generalize jF=K at*
   generalize iC=V at*
   refine aq ?_;refine ac.range (yss:=[[.agg [.int .i64 T.1,.int .i64 0,.int .i64 (n:Int),.int .i64 ((n+T.2:Nat):Int)]]]) (wh:=false) (fr1:=[.box false 9 [.t (.str (bs l))],.box false 3 [.t (.int .i64 0)],.box true 9 [.t (.str (bs l))],.box true 197 [.t (.mp K V)]]) rfl rfl D rfl ?_;refine o6.cons ?_;refine o5.LN [.box false 9 [.t (.str (bs l))],.box false 3 [.t (.int .i64 0)],.box true 9 [.t (.str (bs l))],.box true 197 [.t (.mp K V)]] rfl rfl rfl ?_;by_cases v:n=0
   ·
    by_cases u:n+T.2=l.length
    ·
     rw[if_pos ⟨v,u⟩];refine aq ?_;refine⟨rfl,?_⟩;refine aq ?_;refine⟨by kernel_rfl,?_⟩;exact ah
    ·
     rw[if_neg fun h=>u h.2];refine aq ?_;refine⟨rfl,?_⟩;refine aq ?_;refine⟨by kernel_rfl,?_⟩;exact ah
   ·
    rw[if_neg fun h=>v h.1];refine aq ?_;refine⟨rfl,?_⟩;refine aq ?_;refine⟨by kernel_rfl,?_⟩;exact ah
def Lj{l:List UInt8}(hl:l.length<=1000000):Cl aj 133 [.t (.str (bs l))] [] (.t (.bool (oF l))) []:=by
 have u:(bs l).size=l.length:=eJ l;have v:=Li hl;rw[KC]at v;refine Cl.ap rfl Tryz.func133 rfl rfl rfl ?_;unfold oF;generalize ou l=k at*
 by_cases h1:l.length<=16
 ·
  by_cases h2:k=1
  ·
   rw[decide_eq_true h1,decide_eq_true h2];exact ah
  ·
   rw[decide_eq_true h1,decide_eq_false h2];exact ah
 ·
  rw[decide_eq_false h1];rw[Bool.and_comm];exact ah
def JY{C:List Int}{p:Int->Bool}(hl:C.length<=140737488351232)(hp:∀x∈C,Cl aj 171 [.t (.int .i64 x)] [] (.t (.bool (p x))) []):Cl aj 90 [.t (aD C),.t (.fn (.func 171) 0 [])] [] (.t (.int .i64 (bB p C 0))) []:=by
 have z:=aW C;refine Cl.ap rfl Tryz.func90 rfl rfl rfl ?_;refine aq ?_;refine az.ind (fun q:Nat=>[(8,.t (.int .i64 (q:Int)))]) (fun q=>q<=C.length/\bB p C 0=bB p (C.drop q) q) (fun q=>C.length - q) 0 rfl (by simp) (fun q D=>?_);obtain⟨h1,h2⟩:=D;rw[h2];rcases Nat.lt_or_ge q C.length with h3|h3
 ·
  obtain⟨e,u⟩:=am h3;have G:=bg u;have v:=hp e (List.mem_of_getElem? u);rw[drop_at u,ly];obtain⟨b,y⟩:∃b,p e=b:=⟨_,rfl⟩;rw[y]at v⊢
  cases b with
  |true=>
   exact ah
  |false=>
   exact ah
 ·
  rw[List.drop_of_length_le h3];exact ah
def Ik{C:List Int}{p:Int->Bool}(hl:C.length<=140737488351232)(hp:∀x∈C,Cl aj 171 [.t (.int .i64 x)] [] (.t (.bool (p x))) []):Cl aj 42 [.t (aD C),.t (.fn (.func 171) 0 [])] [] (.t (.bool (C.any p))) []:=by
 have u:=JY hl hp;rw[<- kF p C 0 (by omega)];refine Cl.ap rfl Tryz.func42 rfl rfl rfl ?_;obtain⟨n,v⟩:∃n,bB p C 0=n:=⟨_,rfl⟩;rw[v]at u⊢;exact ah
end Go.Proofs.YtcgdbhlnkificaaGreatDoor
