/- The tokens of texts as the code reads them:. No condition. -/
import Derived.Test.YtjolgbkkocjpgaaGreatDoorTL
import Derived.Test.YtjolgbkkocjpgaaGreatDoorTX
import Derived.Test.YtjolgbkkocjpgaaGreatDoorTP
import Derived.Test.YtjolgbkkocjpgaaGreatDoorTV
set_option linter.all false
namespace Go.Proofs.YtjolgbkkocjpgaaGreatDoor
open Go.RowKit
set_option maxRecDepth 100000
set_option maxHeartbeats 16000000
def zR(b:UInt8):Cl dX 200 [.t (.int .u8 (b.toNat:Int))] [] (.t (.bool (eO b))) []:=by
 refine Cl.aq rfl Tryz.func200 rfl rfl rfl ?_
 repeat'(first
|((with_reducible apply aa.aX)<;>intro u)
|((with_reducible apply aa.bi)<;>intro u)
|(refine ar ?_)
|((with_reducible apply aa.aB);(case hW=>exact rfl);(case hx=>exact af))
|((with_reducible apply aa.u0);(case hx=>exact af))
|fail)
 all_goals(refine a_ (.inr rfl) rfl ?_;unfold eO;first|(simp_all;done)|(simp_all;omega))
def wm(b:UInt8):Cl dX 203 [.t (.int .u8 (b.toNat:Int))] [] (.t (.bool (b_ b))) []:=by
 refine Cl.aq rfl Tryz.func203 rfl rfl rfl ?_
 repeat'(first
|((with_reducible apply aa.aX)<;>intro u)
|((with_reducible apply aa.bi)<;>intro u)
|(refine ar ?_)
|((with_reducible apply aa.aB);(case hW=>exact rfl);(case hx=>exact af))
|((with_reducible apply aa.u0);(case hx=>exact af))
|fail)
 all_goals(refine a_ (.inr rfl) rfl ?_;unfold b_;first|(simp_all;done)|(simp_all;omega))
def Eg(b:UInt8):Cl dX 205 [.t (.int .u8 (b.toNat:Int))] [] (.t (.bool (dI b))) []:=by
 refine Cl.aq rfl Tryz.func205 rfl rfl rfl ?_
 repeat'(first
|((with_reducible apply aa.aX)<;>intro u)
|((with_reducible apply aa.bi)<;>intro u)
|(refine ar ?_)
|((with_reducible apply aa.aB);(case hW=>exact rfl);(case hx=>exact af))
|((with_reducible apply aa.u0);(case hx=>exact af))
|fail)
 all_goals(refine a_ (.inr rfl) rfl ?_;unfold dI;first|(simp_all;done)|(simp_all;omega))
def MG(b:UInt8):Cl dX 213 [.t (.int .u8 (b.toNat:Int))] [] (.t (.bool (dQ b))) []:=by
 refine Cl.aq rfl Tryz.func213 rfl rfl rfl ?_
 repeat'(first
|((with_reducible apply aa.gm)<;>intro u)
|(refine ar ?_)
|((with_reducible apply aa.u0);(case hx=>exact af))
|fail)
 all_goals(refine a_ (.inr rfl) rfl ?_;unfold dQ;first|(simp_all;done)|(simp_all;omega))
def MN(b:UInt8):Cl dX 202 [.t (.int .u8 (b.toNat:Int))] [] (.t (.bool (cj b))) []:=by
 refine Cl.aq rfl Tryz.func202 rfl rfl rfl ?_;have u:=zR b;have v:=wm b;unfold cj
 cases h1:eO b with
 |true=>
  rw[h1]at u;exact ae
 |false=>
  rw[h1]at u
  cases h2:b_ b with
  |true=>
   rw[h2]at v;exact ae
  |false=>
   rw[h2]at v;exact ae
def PG{l:List UInt8}(hl:l.length<=1000000):Cl dX 201 [.t (.str (bs l)),.t (.fn (.func 202) 0 [])] [] (.t (.int .i64 (aQ cj l:Int))) []:=by
 have D:(bs l).size=l.length:=e9 l;refine Cl.aq rfl Tryz.func201 rfl rfl rfl ?_;refine ak ?_;refine ax.ind (fun q:Nat=>[(5,.t (.int .i64 (q:Int)))]) (fun q=>q<=l.length/\q+aQ cj (l.drop q)=aQ cj l) (fun q=>l.length - q) 0 rfl ⟨by omega,by simp⟩ (fun q z=>?_);obtain⟨h1,h2⟩:=z;rcases Nat.lt_or_ge q l.length with h3|h3
 ·
  obtain⟨b,y⟩:=aj h3;have v:=MN b;have hd:=bK y
  cases u:cj b with
  |true=>
   rw[u]at v;have e:aQ cj (l.drop q)=aQ cj (l.drop (q+1))+1:=by rw[hd,aQ,if_pos u]
   exact ae
  |false=>
   rw[u]at v;have e:aQ cj (l.drop q)=0:=by rw[hd,aQ,if_neg (by simp[u])]
   rw[<- h2,e];exact ae
 ·
  obtain rfl:q=l.length:=by omega
  have e:aQ cj (l.drop l.length)=0:=by rw[List.drop_length];rfl
  rw[<- h2,e];exact ae
def PE{l:List UInt8}(hl:l.length<=1000000):Cl dX 201 [.t (.str (bs l)),.t (.fn (.func 203) 0 [])] [] (.t (.int .i64 (aQ b_ l:Int))) []:=by
 have D:(bs l).size=l.length:=e9 l;refine Cl.aq rfl Tryz.func201 rfl rfl rfl ?_;refine ak ?_;refine ax.ind (fun q:Nat=>[(5,.t (.int .i64 (q:Int)))]) (fun q=>q<=l.length/\q+aQ b_ (l.drop q)=aQ b_ l) (fun q=>l.length - q) 0 rfl ⟨by omega,by simp⟩ (fun q z=>?_);obtain⟨h1,h2⟩:=z;rcases Nat.lt_or_ge q l.length with h3|h3
 ·
  obtain⟨b,y⟩:=aj h3;have v:=wm b;have hd:=bK y
  cases u:b_ b with
  |true=>
   rw[u]at v;have e:aQ b_ (l.drop q)=aQ b_ (l.drop (q+1))+1:=by rw[hd,aQ,if_pos u]
   exact ae
  |false=>
   rw[u]at v;have e:aQ b_ (l.drop q)=0:=by rw[hd,aQ,if_neg (by simp[u])]
   rw[<- h2,e];exact ae
 ·
  obtain rfl:q=l.length:=by omega
  have e:aQ b_ (l.drop l.length)=0:=by rw[List.drop_length];rfl
  rw[<- h2,e];exact ae
def PF{l:List UInt8}(hl:l.length<=1000000):Cl dX 201 [.t (.str (bs l)),.t (.fn (.func 213) 0 [])] [] (.t (.int .i64 (aQ dQ l:Int))) []:=by
 have D:(bs l).size=l.length:=e9 l;refine Cl.aq rfl Tryz.func201 rfl rfl rfl ?_;refine ak ?_;refine ax.ind (fun q:Nat=>[(5,.t (.int .i64 (q:Int)))]) (fun q=>q<=l.length/\q+aQ dQ (l.drop q)=aQ dQ l) (fun q=>l.length - q) 0 rfl ⟨by omega,by simp⟩ (fun q z=>?_);obtain⟨h1,h2⟩:=z;rcases Nat.lt_or_ge q l.length with h3|h3
 ·
  obtain⟨b,y⟩:=aj h3;have v:=MG b;have hd:=bK y
  cases u:dQ b with
  |true=>
   rw[u]at v;have e:aQ dQ (l.drop q)=aQ dQ (l.drop (q+1))+1:=by rw[hd,aQ,if_pos u]
   exact ae
  |false=>
   rw[u]at v;have e:aQ dQ (l.drop q)=0:=by rw[hd,aQ,if_neg (by simp[u])]
   rw[<- h2,e];exact ae
 ·
  obtain rfl:q=l.length:=by omega
  have e:aQ dQ (l.drop l.length)=0:=by rw[List.drop_length];rfl
  rw[<- h2,e];exact ae
def MO{l:List UInt8}(hl:l.length<=1000000):Cl dX 199 [.t (.str (bs l))] [] (.t (.int .i64 (aZ false l:Int))) []:=by
 have z:(bs l).size=l.length:=e9 l;refine Cl.aq rfl Tryz.func199 rfl rfl rfl ?_;refine ak ?_;refine ax.ind (fun q:Nat=>[(3,.t (.int .i64 (q:Int)))]) (fun q=>q<=l.length/\q+aZ false (l.drop q)=aZ false l) (fun q=>l.length - q) 0 rfl ⟨by omega,by simp⟩ (fun q I=>?_);obtain⟨h1,h2⟩:=I;rcases Nat.lt_or_ge q l.length with h3|h3
 ·
  obtain⟨b,hb⟩:=aj h3;have D:=Eg b;have hd:=bK hb
  cases v:dI b with
  |true=>
   rw[v]at D;have hs:=GQ hb v;exact ae
  |false=>
   rw[v]at D;by_cases G:(b.toNat:Int)=35
   ·
    have hs:=QB (r:=l.drop (q+1)) v (by omega);rw[<- hd,List.drop_drop]at hs;have y:=sb dQ (l.drop q);rw[List.length_drop]at y
    have J:1<=aQ dQ (l.drop q):=by
     rw[hd,aQ,if_pos (by simp[dQ];omega)];omega
    have U:=PF (l:=l.drop q) (by rw[List.length_drop];omega);have u:(bs l).extract q (bs l).size=bs (l.drop q):=by rw[ol,z,List.take_length]
    generalize aQ dQ (l.drop q)=n at*
    repeat'(first
|((with_reducible apply aa.aR);(case hp=>exact aA))
|(refine ar ?_)
|((with_reducible apply aa.u0);(case hx=>first
|((with_reducible apply ac.gV);(case hx|hi|hst=>exact rfl);(case h0=>omega);(case hb=>assumption))
|((with_reducible apply ac.ux);(case hst|hx|hl=>exact rfl);(case h0=>omega);(case hls=>first|assumption|omega);(case hv=>exact u))
|(exact ap D)
|(exact ap U)
|exact af))
|fail)
    exact⟨q+n,rfl,rfl,⟨by omega,by omega⟩,by omega⟩
   ·
    have hs:=GO hb v (by omega);rw[<- h2,hs];exact ae
 ·
  obtain rfl:q=l.length:=by omega
  have hs:=xp (l:=l) false (Nat.le_refl _);rw[<- h2,hs];exact ae
def Mu{s p:List UInt8}(hs:s.length<=1000000)(hp:p.length<=1000000):Cl dX 219 [.t (.str (bs s)),.t (.str (bs p))] [] (.t (.bool (fz p s))) []:=by
 have z:(bs s).size=s.length:=e9 s;have y:(bs p).size=p.length:=e9 p;refine Cl.aq rfl Tryz.func219 rfl rfl rfl ?_;by_cases h4:p.length<=s.length
 ·
  have hx:(bs s).extract 0 (bs p).size=bs (s.take p.length):=by rw[y,ol];rfl
  by_cases u:s.take p.length=p
  ·
   have v:bs (s.take p.length)=bs p:=by rw[u]
   have e:fz p s=true:=by unfold fz;simp[h4,u]
   rw[e]
   repeat'(first
|(refine aY ?_)
|(refine ar ?_)
|((with_reducible apply aa.aB);(case hW=>exact rfl);(case hx=>first
|((with_reducible apply ac.xl);(case hst|hx|hh=>exact rfl);(case hhs=>first|assumption|omega);(case hv=>exact hx))
|exact af))
|((with_reducible apply aa.u0);(case hx=>exact af))
|fail)
   exact⟨.inr rfl,rfl⟩
  ·
   have v:¬bs (s.take p.length)=bs p:=fun h=>u (q8 h);have e:fz p s=false:=by unfold fz;simp[u]
   rw[e]
   repeat'(first
|(refine aY ?_)
|(refine ar ?_)
|((with_reducible apply aa.aB);(case hW=>exact rfl);(case hx=>first
|((with_reducible apply ac.xl);(case hst|hx|hh=>exact rfl);(case hhs=>first|assumption|omega);(case hv=>exact hx))
|exact af))
|((with_reducible apply aa.u0);(case hx=>exact af))
|fail)
   exact⟨.inr rfl,rfl⟩
 ·
  have e:fz p s=false:=by unfold fz;simp[h4]
  rw[e];exact ae
def Mv{s p:List UInt8}(hs:s.length<=1000000)(hp:p.length<=1000000):Cl dX 214 [.t (.str (bs s)),.t (.str (bs p))] [] (.t (.bool (fz p s))) []:=by
 have k:=Mu hs hp;refine Cl.aq rfl Tryz.func214 rfl rfl rfl ?_;exact ae
def Mx{s:ByteArray}{b:UInt8}:Cl dX 215 [.t (.str s),.t (.int .u8 (b.toNat:Int))] [] (.t (.int .i64 (Lib.indexByte s.data.toList b))) []:=by
 refine Cl.ext (xs:=[.str s,.int .u8 (b.toNat:Int)]) rfl rfl ?_;have u:b.toNat <256:=b.toNat_lt;have e:(Nat.beq 215 215&&decide ((0:Int)<=(b.toNat:Int)/\(b.toNat:Int)<256))=true:=by simp;omega
 show(match Nat.beq 215 215&&decide ((0:Int)<=(b.toNat:Int)/\(b.toNat:Int)<256)with|true=>some (SV.t (.int .i64 (Lib.indexByte s.data.toList (UInt8.ofNat (b.toNat:Int).toNat))),([]:Fr))|false=>none)=_
 rw[e];simp
theorem DF:∀(l:List UInt8) (c:UInt8),0<=Lib.indexByte l c↔c∈l
 |[],c=>by simp[Lib.indexByte]
 |b::l,c=>by
  have v:=DF l c;have D:=Lib.indexByte_ge l c;unfold Lib.indexByte;by_cases h:b=c
  ·subst h;simp
  ·have y:(b==c)=false:=by simpa using h
   rw[y];simp only[Bool.false_eq_true,if_false];by_cases h2:Lib.indexByte l c= -1
   ·simp only[h2,beq_self_eq_true,if_true];have:¬c∈l:=fun z=>by have:=v.2 z;omega
    simp[this,Ne.symm h]
   ·have u:(Lib.indexByte l c== -1)=false:=by simpa using h2
    simp only[u,Bool.false_eq_true,if_false];have:c∈l:=v.1 (by omega);simp[this];omega
def Ed{l:List UInt8}(hl:l.length<=1000000):Cl dX 204 [.t (.str (bs l))] [] (.t (.int .i64 (fQ l:Int))) []:=by
 have V:(bs l).size=l.length:=e9 l;have J:(l6 l8).length=5:=rfl;refine Cl.aq rfl Tryz.func204 rfl rfl rfl ?_
 repeat'(first
|(refine ar ?_)
|((with_reducible apply aa.u0);(case hx=>first
|((with_reducible apply(ac.len (n:=5)));(case ha|hy|ht|hs|hn=>exact rfl))
|exact af))
|fail)
 apply am.lK
 case ho=>exact rfl
 case hp=>exact rfl
 case hl=>exact rfl
 case hs=>exact slt
 refine ax.ind (fun k:Nat=>[(7,.t (.int .i64 (k:Int)))]) (fun k=>k<=5/\(l8.any fun s=>fz s l)=((l8.drop k).any fun s=>fz s l)) (fun k=>5 - k) 0 rfl ⟨by omega,rfl⟩ (fun k I=>?_);obtain⟨h1,h2⟩:=I;rcases Nat.lt_or_ge k 5 with h3|h3
 ·
  obtain⟨s,hs⟩:=aj (xs:=l8) (k:=k) h3;have hc:=G7 hs
  have v:s.length<=1000000:=by
   have:∀x∈l8,x.length=2:=by decide
   rw[this s (List.mem_of_getElem? hs)];omega
  have z:=Mv (p:=s) hl v;have u:=oe (fun s=>fz s l) hs
  cases hp:fz s l with
  |true=>
   rw[hp]at z;have e:fQ l=2:=by unfold fQ;rw[h2,u,hp];rfl
   rw[e];exact ae
  |false=>
   rw[hp]at z;have e:((l8.drop k).any fun s=>fz s l)=((l8.drop (k+1)).any fun s=>fz s l):=by rw[u,hp];rfl
   refine ak ?_;exact⟨k+1,rfl,rfl,⟨by omega,h2.trans e⟩,by omega⟩
 ·
  have u:=od (l:=l8) (fun s=>fz s l) (show l8.length<=k from h3)
  cases l with
  |nil=>
   have e:fQ []=0:=by unfold fQ;rw[h2,u];rfl
   have G:bs ([]:List UInt8)=⟨#[]⟩:=rfl;rw[e];exact ae
  |cons b r=>
   have U:¬bs (b::r)=bs []:=fun h=>by have:=q8 h;cases this
   have hb:(b::r)[0]?=some b:=rfl;have Z:=Mx (s:=bs l7) (b:=b);have y:=DF l7 b;have hd:(bs l7).data.toList=l7:=rfl;rw[hd]at Z;have e:fQ (b::r)=if b∈l7 then 1 else 0:=by unfold fQ;rw[h2,u];rfl
   by_cases hs:b∈l7
   ·
    have D:=y.2 hs;rw[e,if_pos hs];generalize Lib.indexByte l7 b=n at*
    exact ae
   ·
    have D:¬0<=Lib.indexByte l7 b:=fun h=>hs (y.1 h);rw[e,if_neg hs];generalize Lib.indexByte l7 b=n at*
    exact ae
def Mh{b:UInt8}{r:List UInt8}(hl:(b::r).length<=1000000):Cl dX 206 [.t (.str (bs (b::r)))] [] (.t (.bool (pH b r))) []:=by
 have z:(bs (b::r)).size=(b::r).length:=e9 _;have D:(b::r)[0]?=some b:=rfl;have u:(b::r).length=r.length+1:=rfl;have v:=zR b;have y:=wm b;have G:=Ed hl;refine Cl.aq rfl Tryz.func206 rfl rfl rfl ?_;unfold pH
 cases h1:eO b with
 |true=>
  rw[h1]at v;exact ae
 |false=>
  rw[h1]at v
  cases h2:b_ b with
  |true=>
   rw[h2]at y;exact ae
  |false=>
   rw[h2]at y;by_cases h3:0 <fQ (b::r)
   ·
    rw[decide_eq_true h3];exact ae
   ·
    rw[decide_eq_false h3];exact ae
def jK:List AV:=cZ.map fun w=>.str ⟨w.toArray⟩
def iM:List AV:=cZ.map fun _=>.bool true
def MD:Cl ah 197 [] [] (.lm 0) [.map false jK (iM.map .t)]:=⟨60,by kernel_rfl⟩
def MP(l:List UInt8):Cl ah 187 [.t (.str (bs l))] [] (.fn (.func 198) 0 [.lp 0 0,.lp 1 0]) [.box false 9 [.t (.str (bs l))],.box false 178 [.t (.mp jK iM)]]:=by
 have k:=MD;refine Cl.aq rfl Tryz.func187 rfl rfl rfl ?_;exact ae
def L4:p9 cZ jK iM=true:=by kernel_rfl
def PS{l:List UInt8}(hl:l.length<=1000000):ah.seq 198 [.tp [.str (bs l)],.tp [.mp jK iM]]=some ([ph l],false):=by
 have h2:Nat.ble (bs l).size 1000000=true:=by rw[e9,Nat.ble_eq];omega
 have e:(p9 cZ jK iM&&Nat.ble (bs l).size 1000000)=true:=by rw[L4,h2];rfl
 show(match(match p9 cZ jK iM&&Nat.ble (bs l).size 1000000 with|true=>some ([ph (bs l).data.toList],false)|false=>none)with|some r=>some r|none=>A9 198 [.tp [.str (bs l)],.tp [.mp jK iM]])=_
 rw[e];rfl
def pq.M4{g:Cfg}{f:Nat}{asg body:Code}{env:Env}{fr:Fr}{K:Out->Env->Fr->Prop}{u:List Nat}{y:List AV}{bs:Fr}(F:Fr)(hl:Nat.beq y.length u.length=true)(hb:dL fr (List.range fr.length)=some bs)(v:(bs.map fun b=>cS (b.sub (bc (List.range fr.length))))=F)
  (h:am g f asg (o4 u y fun t=>(env t).sub (bc (List.range fr.length))) F fun o e r=>o=.normal/\am g f body e r (FY (g.lv f (db body)) env fr K)):pq g f u asg body y env fr K:=by
 subst v;exact pq.mk hl hb h
def ME{l:List UInt8}(hl:l.length<=1000000):Cl ah 168 [.t (.str (bs l))] [] (.t (.int .i64 (oK l))) []:=by
 have U:(bs l).size=l.length:=e9 l;have kt:=MP l;have D:=PS hl;refine Cl.aq rfl Tryz.func168 rfl rfl rfl ?_;by_cases G:l.length=0
 ·
  obtain rfl:l=[]:=List.length_eq_zero_iff.1 G;have I:bs ([]:List UInt8)=⟨#[]⟩:=rfl;have e:oK []=0:=rfl;rw[e];exact ae
 ·
  have J:¬bs l=⟨#[]⟩:=fun h=>by
   have:(bs l).size=0:=by rw[h];rfl
   omega
  by_cases h1:4096 <l.length
  ·
   have e:oK l=0:=by unfold oK;rw[if_pos (.inr h1)]
   rw[e];exact ae
  ·
   have e:oK l=if aZ false l=0/\aZ false l+(gJ (l.drop (aZ false l))).2=l.length then(gJ (l.drop (aZ false l))).1 else 0:=by unfold oK;rw[if_neg (by omega)]
   rw[e];obtain⟨n,z⟩:∃n,aZ false l=n:=⟨_,rfl⟩;obtain⟨T,y⟩:∃T,gJ (l.drop (aZ false l))=T:=⟨_,rfl⟩;have Z:ph l=[.agg [.int .i64 T.1,.int .i64 0,.int .i64 (n:Int),.int .i64 ((n+T.2:Nat):Int)]]:=by unfold ph;rw[y,z]
   rw[Z]at D;rw[z]at y;rw[z,y];generalize jK=K at*
   generalize iM=V at*
   refine ak ?_;refine am.range (yss:=[[.agg [.int .i64 T.1,.int .i64 0,.int .i64 (n:Int),.int .i64 ((n+T.2:Nat):Int)]]]) (wh:=false) (fr1:=[.box false 9 [.t (.str (bs l))],.box false 3 [.t (.int .i64 0)],.box true 9 [.t (.str (bs l))],.box true 178 [.t (.mp K V)]]) rfl rfl D rfl ?_;refine pt.cons ?_;refine pq.M4 [.box false 9 [.t (.str (bs l))],.box false 3 [.t (.int .i64 0)],.box true 9 [.t (.str (bs l))],.box true 178 [.t (.mp K V)]] rfl rfl rfl ?_;by_cases v:n=0
   ·
    by_cases u:n+T.2=l.length
    ·
     rw[if_pos ⟨v,u⟩];refine ak ?_;refine⟨rfl,?_⟩;refine ak ?_;refine⟨by kernel_rfl,?_⟩;exact ae
    ·
     rw[if_neg fun h=>u h.2];refine ak ?_;refine⟨rfl,?_⟩;refine ak ?_;refine⟨by kernel_rfl,?_⟩;exact ae
   ·
    rw[if_neg fun h=>v h.1];refine ak ?_;refine⟨rfl,?_⟩;refine ak ?_;refine⟨by kernel_rfl,?_⟩;exact ae
def MF{l:List UInt8}(hl:l.length<=1000000):Cl ah 135 [.t (.str (bs l))] [] (.t (.bool (oU l))) []:=by
 have u:(bs l).size=l.length:=e9 l;have v:=ME hl;rw[L0]at v;refine Cl.aq rfl Tryz.func135 rfl rfl rfl ?_;unfold oU;generalize oL l=k at*
 by_cases h1:l.length<=16
 ·
  by_cases h2:k=1
  ·
   rw[decide_eq_true h1,decide_eq_true h2];exact ae
  ·
   rw[decide_eq_true h1,decide_eq_false h2];exact ae
 ·
  rw[decide_eq_false h1];rw[Bool.and_comm];exact ae
def Ld{C:List Int}{p:Int->Bool}(hl:C.length<=140737488351232)(hp:∀x∈C,Cl ah 167 [.t (.int .i64 x)] [] (.t (.bool (p x))) []):Cl ah 32 [.t (ay C),.t (.fn (.func 167) 0 [])] [] (.t (.int .i64 (bj p C 0))) []:=by
 have z:=aO C;refine Cl.aq rfl Tryz.func32 rfl rfl rfl ?_;refine ak ?_;refine ax.ind (fun q:Nat=>[(8,.t (.int .i64 (q:Int)))]) (fun q=>q<=C.length/\bj p C 0=bj p (C.drop q) q) (fun q=>C.length - q) 0 rfl (by simp) (fun q D=>?_);obtain⟨h1,h2⟩:=D;rw[h2];rcases Nat.lt_or_ge q C.length with h3|h3
 ·
  obtain⟨e,u⟩:=aj h3;have G:=aW u;have v:=hp e (List.mem_of_getElem? u);rw[drop_at u,iK];obtain⟨b,y⟩:∃b,p e=b:=⟨_,rfl⟩;rw[y]at v⊢
  cases b with
  |true=>
   exact ae
  |false=>
   exact ae
 ·
  rw[List.drop_of_length_le h3];exact ae
def Jl{C:List Int}{p:Int->Bool}(hl:C.length<=140737488351232)(hp:∀x∈C,Cl ah 167 [.t (.int .i64 x)] [] (.t (.bool (p x))) []):Cl ah 11 [.t (ay C),.t (.fn (.func 167) 0 [])] [] (.t (.bool (C.any p))) []:=by
 have u:=Ld hl hp;rw[<- ik p C 0 (by omega)];refine Cl.aq rfl Tryz.func11 rfl rfl rfl ?_;obtain⟨n,v⟩:∃n,bj p C 0=n:=⟨_,rfl⟩;rw[v]at u⊢;exact ae
def Lo{C:List Int}{p:Int->Bool}(hl:C.length<=140737488351232)(hp:∀x∈C,Cl ah 31 [.t (.int .i64 x)] [] (.t (.bool (p x))) []):Cl ah 32 [.t (ay C),.t (.fn (.func 31) 0 [])] [] (.t (.int .i64 (bj p C 0))) []:=by
 have z:=aO C;refine Cl.aq rfl Tryz.func32 rfl rfl rfl ?_;refine ak ?_;refine ax.ind (fun q:Nat=>[(8,.t (.int .i64 (q:Int)))]) (fun q=>q<=C.length/\bj p C 0=bj p (C.drop q) q) (fun q=>C.length - q) 0 rfl (by simp) (fun q D=>?_);obtain⟨h1,h2⟩:=D;rw[h2];rcases Nat.lt_or_ge q C.length with h3|h3
 ·
  obtain⟨e,u⟩:=aj h3;have G:=aW u;have v:=hp e (List.mem_of_getElem? u);rw[drop_at u,iK];obtain⟨b,y⟩:∃b,p e=b:=⟨_,rfl⟩;rw[y]at v⊢
  cases b with
  |true=>
   exact ae
  |false=>
   exact ae
 ·
  rw[List.drop_of_length_le h3];exact ae
def Jy{C:List Int}{p:Int->Bool}(hl:C.length<=140737488351232)(hp:∀x∈C,Cl ah 31 [.t (.int .i64 x)] [] (.t (.bool (p x))) []):Cl ah 11 [.t (ay C),.t (.fn (.func 31) 0 [])] [] (.t (.bool (C.any p))) []:=by
 have u:=Lo hl hp;rw[<- ik p C 0 (by omega)];refine Cl.aq rfl Tryz.func11 rfl rfl rfl ?_;obtain⟨n,v⟩:∃n,bj p C 0=n:=⟨_,rfl⟩;rw[v]at u⊢;exact ae
end Go.Proofs.YtjolgbkkocjpgaaGreatDoor
