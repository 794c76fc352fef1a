/- The tokens of texts as the code reads them: letters,runs,white space,as contracts. No condition. -/
import Derived.Test.YtjolgbkkocjpgaaGreatDoorTL
import Derived.Test.YtjolgbkkocjpgaaGreatDoorTX
import Derived.Test.YtjolgbkkocjpgaaGreatDoorTP
import Derived.Test.YtjolgbkkocjpgaaGreatDoorTV
set_option linter.defProp false
set_option linter.unusedSimpArgs false
set_option linter.unusedVariables false
set_option linter.unusedSectionVars false
namespace Go.Proofs.YtjolgbkkocjpgaaGreatDoor
open Go.RowKit
set_option maxRecDepth 100000
set_option maxHeartbeats 16000000
def zb(b:UInt8):Cl dL 200 [.t (.int .u8 (b.toNat:Int))] [] (.t (.bool (ec b))) []:=by
 refine Cl.ao rfl Tryz.func200 rfl rfl rfl ?_
 repeat'(first
|(with_reducible apply ac.seq)
|((with_reducible apply ac.text);(try case hm=>exact rfl))
|(with_reducible apply ac.ret)
|((with_reducible apply aa.bc)<;>intro u)
|((with_reducible apply aa.bg)<;>intro u)
|(with_reducible apply aa.ap)
|((with_reducible apply aa.gf);(case hW=>exact rfl))
|((with_reducible apply aa.aD);(case hW=>exact rfl);(case hx=>exact ah))
|((with_reducible apply aa.u0);(case hx=>exact ah))
|fail)
 all_goals(refine aZ (.inr rfl) rfl ?_;unfold ec;first|(simp_all;done)|(simp_all;omega))
def vC(b:UInt8):Cl dL 203 [.t (.int .u8 (b.toNat:Int))] [] (.t (.bool (bR b))) []:=by
 refine Cl.ao rfl Tryz.func203 rfl rfl rfl ?_
 repeat'(first
|(with_reducible apply ac.seq)
|((with_reducible apply ac.text);(try case hm=>exact rfl))
|(with_reducible apply ac.ret)
|((with_reducible apply aa.bc)<;>intro u)
|((with_reducible apply aa.bg)<;>intro u)
|(with_reducible apply aa.ap)
|((with_reducible apply aa.gf);(case hW=>exact rfl))
|((with_reducible apply aa.aD);(case hW=>exact rfl);(case hx=>exact ah))
|((with_reducible apply aa.u0);(case hx=>exact ah))
|fail)
 all_goals(refine aZ (.inr rfl) rfl ?_;unfold bR;first|(simp_all;done)|(simp_all;omega))
def DP(b:UInt8):Cl dL 205 [.t (.int .u8 (b.toNat:Int))] [] (.t (.bool (dp b))) []:=by
 refine Cl.ao rfl Tryz.func205 rfl rfl rfl ?_
 repeat'(first
|(with_reducible apply ac.seq)
|((with_reducible apply ac.text);(try case hm=>exact rfl))
|(with_reducible apply ac.ret)
|((with_reducible apply aa.bc)<;>intro u)
|((with_reducible apply aa.bg)<;>intro u)
|(with_reducible apply aa.ap)
|((with_reducible apply aa.gf);(case hW=>exact rfl))
|((with_reducible apply aa.aD);(case hW=>exact rfl);(case hx=>exact ah))
|((with_reducible apply aa.u0);(case hx=>exact ah))
|fail)
 all_goals(refine aZ (.inr rfl) rfl ?_;unfold dp;first|(simp_all;done)|(simp_all;omega))
def Lf(b:UInt8):Cl dL 213 [.t (.int .u8 (b.toNat:Int))] [] (.t (.bool (dC b))) []:=by
 refine Cl.ao rfl Tryz.func213 rfl rfl rfl ?_
 repeat'(first
|(with_reducible apply ac.seq)
|((with_reducible apply ac.text);(try case hm=>exact rfl))
|(with_reducible apply ac.ret)
|((with_reducible apply aa.fP)<;>intro u)
|(with_reducible apply aa.ap)
|((with_reducible apply aa.u0);(case hx=>exact ah))
|fail)
 all_goals(refine aZ (.inr rfl) rfl ?_;unfold dC;first|(simp_all;done)|(simp_all;omega))
def Lg(b:UInt8):Cl dL 202 [.t (.int .u8 (b.toNat:Int))] [] (.t (.bool (b7 b))) []:=by
 refine Cl.ao rfl Tryz.func202 rfl rfl rfl ?_;have u:=zb b;have v:=vC b;unfold b7
 cases h1:ec b with
 |true=>
  rw[h1]at u;exact af
 |false=>
  rw[h1]at u
  cases h2:bR b with
  |true=>
   rw[h2]at v;exact af
  |false=>
   rw[h2]at v;exact af
def Lh{l:List UInt8}(hl:l.length<=1000000):Cl dL 201 [.t (.str (bs l)),.t (.fn (.func 202) 0 [])] [] (.t (.int .i64 (aP b7 l:Int))) []:=by
 have D:(bs l).size=l.length:=eJ l;refine Cl.ao rfl Tryz.func201 rfl rfl rfl ?_;refine ar ?_;refine aC.ind (fun q:Nat=>[(5,.t (.int .i64 (q:Int)))]) (fun q=>q<=l.length/\q+aP b7 (l.drop q)=aP b7 l) (fun q=>l.length - q) 0 rfl ⟨by omega,by simp⟩ (fun q z=>?_);obtain⟨h1,h2⟩:=z;rcases Nat.lt_or_ge q l.length with h3|h3
 ·
  obtain⟨b,y⟩:=am h3;have v:=Lg b;have hd:=bS y
  cases u:b7 b with
  |true=>
   rw[u]at v;have e:aP b7 (l.drop q)=aP b7 (l.drop (q+1))+1:=by rw[hd,aP,if_pos u]
   exact af
  |false=>
   rw[u]at v;have e:aP b7 (l.drop q)=0:=by rw[hd,aP,if_neg (by simp[u])]
   rw[<- h2,e];exact af
 ·
  obtain rfl:q=l.length:=by omega
  have e:aP b7 (l.drop l.length)=0:=by rw[List.drop_length];rfl
  rw[<- h2,e];exact af
def Li{l:List UInt8}(hl:l.length<=1000000):Cl dL 201 [.t (.str (bs l)),.t (.fn (.func 203) 0 [])] [] (.t (.int .i64 (aP bR l:Int))) []:=by
 have D:(bs l).size=l.length:=eJ l;refine Cl.ao rfl Tryz.func201 rfl rfl rfl ?_;refine ar ?_;refine aC.ind (fun q:Nat=>[(5,.t (.int .i64 (q:Int)))]) (fun q=>q<=l.length/\q+aP bR (l.drop q)=aP bR l) (fun q=>l.length - q) 0 rfl ⟨by omega,by simp⟩ (fun q z=>?_);obtain⟨h1,h2⟩:=z;rcases Nat.lt_or_ge q l.length with h3|h3
 ·
  obtain⟨b,y⟩:=am h3;have v:=vC b;have hd:=bS y
  cases u:bR b with
  |true=>
   rw[u]at v;have e:aP bR (l.drop q)=aP bR (l.drop (q+1))+1:=by rw[hd,aP,if_pos u]
   exact af
  |false=>
   rw[u]at v;have e:aP bR (l.drop q)=0:=by rw[hd,aP,if_neg (by simp[u])]
   rw[<- h2,e];exact af
 ·
  obtain rfl:q=l.length:=by omega
  have e:aP bR (l.drop l.length)=0:=by rw[List.drop_length];rfl
  rw[<- h2,e];exact af
def Lj{l:List UInt8}(hl:l.length<=1000000):Cl dL 201 [.t (.str (bs l)),.t (.fn (.func 213) 0 [])] [] (.t (.int .i64 (aP dC l:Int))) []:=by
 have D:(bs l).size=l.length:=eJ l;refine Cl.ao rfl Tryz.func201 rfl rfl rfl ?_;refine ar ?_;refine aC.ind (fun q:Nat=>[(5,.t (.int .i64 (q:Int)))]) (fun q=>q<=l.length/\q+aP dC (l.drop q)=aP dC l) (fun q=>l.length - q) 0 rfl ⟨by omega,by simp⟩ (fun q z=>?_);obtain⟨h1,h2⟩:=z;rcases Nat.lt_or_ge q l.length with h3|h3
 ·
  obtain⟨b,y⟩:=am h3;have v:=Lf b;have hd:=bS y
  cases u:dC b with
  |true=>
   rw[u]at v;have e:aP dC (l.drop q)=aP dC (l.drop (q+1))+1:=by rw[hd,aP,if_pos u]
   exact af
  |false=>
   rw[u]at v;have e:aP dC (l.drop q)=0:=by rw[hd,aP,if_neg (by simp[u])]
   rw[<- h2,e];exact af
 ·
  obtain rfl:q=l.length:=by omega
  have e:aP dC (l.drop l.length)=0:=by rw[List.drop_length];rfl
  rw[<- h2,e];exact af
def Lk{l:List UInt8}(hl:l.length<=1000000):Cl dL 199 [.t (.str (bs l))] [] (.t (.int .i64 (aT false l:Int))) []:=by
 have z:(bs l).size=l.length:=eJ l;refine Cl.ao rfl Tryz.func199 rfl rfl rfl ?_;refine ar ?_;refine aC.ind (fun q:Nat=>[(3,.t (.int .i64 (q:Int)))]) (fun q=>q<=l.length/\q+aT false (l.drop q)=aT false l) (fun q=>l.length - q) 0 rfl ⟨by omega,by simp⟩ (fun q I=>?_);obtain⟨h1,h2⟩:=I;rcases Nat.lt_or_ge q l.length with h3|h3
 ·
  obtain⟨b,hb⟩:=am h3;have D:=DP b;have hd:=bS hb
  cases v:dp b with
  |true=>
   rw[v]at D;have hs:=CD hb v;exact af
  |false=>
   rw[v]at D;by_cases G:(b.toNat:Int)=35
   ·
    have hs:=JV (r:=l.drop (q+1)) v (by omega);rw[<- hd,List.drop_drop]at hs;have y:=qn dC (l.drop q);rw[List.length_drop]at y
    have J:1<=aP dC (l.drop q):=by
     rw[hd,aP,if_pos (by simp[dC];omega)];omega
    have U:=Lj (l:=l.drop q) (by rw[List.length_drop];omega);have u:(bs l).extract q (bs l).size=bs (l.drop q):=by rw[nZ,z,List.take_length]
    generalize aP dC (l.drop q)=n at*
    repeat'(first
|(with_reducible first|apply ac.seq|apply ac.block)
|((with_reducible apply ac.text);(try case hm=>exact rfl))
|(with_reducible first|apply ac.skip|apply az|apply bk)
|((with_reducible apply ac.aA);(case hc=>exact rfl))
|((with_reducible apply ac.aH);(case hc=>exact rfl))
|((with_reducible apply aa.aE);(case hp=>exact aj))
|(with_reducible first|apply aa.ap|apply aa.bj)
|((with_reducible apply aa.u0);(case hx=>first
|((with_reducible apply ae.gm);(case hx|hi|hst=>exact rfl);(case h0=>omega);(case hb=>assumption))
|((with_reducible apply ae.r8);(case hst|hx|hl=>exact rfl);(case h0=>omega);(case hls=>first|assumption|omega);(case hv=>exact u))
|(exact aq D)
|(exact aq U)
|exact ah))
|fail)
    exact⟨q+n,rfl,rfl,⟨by omega,by omega⟩,by omega⟩
   ·
    have hs:=CE hb v (by omega);rw[<- h2,hs];exact af
 ·
  obtain rfl:q=l.length:=by omega
  have hs:=uO (l:=l) false (Nat.le_refl _);rw[<- h2,hs];exact af
def Ll{s p:List UInt8}(hs:s.length<=1000000)(hp:p.length<=1000000):Cl dL 219 [.t (.str (bs s)),.t (.str (bs p))] [] (.t (.bool (eW p s))) []:=by
 have z:(bs s).size=s.length:=eJ s;have y:(bs p).size=p.length:=eJ p;refine Cl.ao rfl Tryz.func219 rfl rfl rfl ?_;by_cases h4:p.length<=s.length
 ·
  have hx:(bs s).extract 0 (bs p).size=bs (s.take p.length):=by rw[y,nZ];rfl
  by_cases u:s.take p.length=p
  ·
   have v:bs (s.take p.length)=bs p:=by rw[u]
   have e:eW p s=true:=by unfold eW;simp[h4,u]
   rw[e]
   repeat'(first
|(with_reducible apply ac.seq)
|((with_reducible apply ac.text);(try case hm=>exact rfl))
|(with_reducible apply ac.ret)
|((with_reducible apply aa.aE);(case hp=>exact aj))
|((with_reducible apply aa.cd);(case hp=>exact aj))
|(with_reducible apply aa.ap)
|((with_reducible apply aa.aD);(case hW=>exact rfl);(case hx=>first
|((with_reducible apply ae.uI);(case hst|hx|hh=>exact rfl);(case hhs=>first|assumption|omega);(case hv=>exact hx))
|exact ah))
|((with_reducible apply aa.u0);(case hx=>exact ah))
|fail)
   exact⟨.inr rfl,rfl⟩
  ·
   have v:¬bs (s.take p.length)=bs p:=fun h=>u (qH h);have e:eW p s=false:=by unfold eW;simp[u]
   rw[e]
   repeat'(first
|(with_reducible apply ac.seq)
|((with_reducible apply ac.text);(try case hm=>exact rfl))
|(with_reducible apply ac.ret)
|((with_reducible apply aa.aE);(case hp=>exact aj))
|((with_reducible apply aa.cA);(case hp=>exact aj))
|(with_reducible apply aa.ap)
|((with_reducible apply aa.aD);(case hW=>exact rfl);(case hx=>first
|((with_reducible apply ae.uI);(case hst|hx|hh=>exact rfl);(case hhs=>first|assumption|omega);(case hv=>exact hx))
|exact ah))
|((with_reducible apply aa.u0);(case hx=>exact ah))
|fail)
   exact⟨.inr rfl,rfl⟩
 ·
  have e:eW p s=false:=by unfold eW;simp[h4]
  rw[e];exact af
def Lm{s p:List UInt8}(hs:s.length<=1000000)(hp:p.length<=1000000):Cl dL 214 [.t (.str (bs s)),.t (.str (bs p))] [] (.t (.bool (eW p s))) []:=by
 have k:=Ll hs hp;refine Cl.ao rfl Tryz.func214 rfl rfl rfl ?_;exact af
def Ln{s:ByteArray}{b:UInt8}:Cl dL 215 [.t (.str s),.t (.int .u8 (b.toNat:Int))] [] (.t (.int .i64 (Lib.indexByte s.data.toList b))) []:=by
 refine Cl.ext (xs:=[.str s,.int .u8 (b.toNat:Int)]) rfl rfl ?_;have u:b.toNat <256:=b.toNat_lt;have e:(Nat.beq 215 215&&decide ((0:Int)<=(b.toNat:Int)/\(b.toNat:Int)<256))=true:=by simp;omega
 show(match Nat.beq 215 215&&decide ((0:Int)<=(b.toNat:Int)/\(b.toNat:Int)<256)with|true=>some (SV.t (.int .i64 (Lib.indexByte s.data.toList (UInt8.ofNat (b.toNat:Int).toNat))),([]:Fr))|false=>none)=_
 rw[e];simp
theorem DQ:∀(l:List UInt8) (c:UInt8),0<=Lib.indexByte l c↔c∈l
 |[],c=>by simp[Lib.indexByte]
 |b::l,c=>by
  have v:=DQ l c;have D:=Lib.indexByte_ge l c;unfold Lib.indexByte;by_cases h:b=c
  ·subst h;simp
  ·have y:(b==c)=false:=by simpa using h
   rw[y];simp only[Bool.false_eq_true,if_false];by_cases h2:Lib.indexByte l c= -1
   ·simp only[h2,beq_self_eq_true,if_true];have:¬c∈l:=fun z=>by have:=v.2 z;omega
    simp[this,Ne.symm h]
   ·have u:(Lib.indexByte l c== -1)=false:=by simpa using h2
    simp only[u,Bool.false_eq_true,if_false];have:c∈l:=v.1 (by omega);simp[this];omega
def DR{l:List UInt8}(hl:l.length<=1000000):Cl dL 204 [.t (.str (bs l))] [] (.t (.int .i64 (fp l:Int))) []:=by
 have U:(bs l).size=l.length:=eJ l;have I:(li k7).length=5:=rfl;refine Cl.ao rfl Tryz.func204 rfl rfl rfl ?_
 repeat'(first
|(with_reducible first|apply ac.seq|apply ac.block)
|((with_reducible apply ac.text);(try case hm=>exact rfl))
|(with_reducible apply aa.ap)
|((with_reducible apply aa.u0);(case hx=>first
|((with_reducible apply(ae.len (n:=5)));(case ha|hy|ht|hs|hn=>exact rfl))
|exact ah))
|fail)
 apply ac.kQ
 case ho=>exact rfl
 case hp=>exact rfl
 case hl=>exact rfl
 case hs=>exact slt
 refine aC.ind (fun k:Nat=>[(7,.t (.int .i64 (k:Int)))]) (fun k=>k<=5/\(k7.any fun s=>eW s l)=((k7.drop k).any fun s=>eW s l)) (fun k=>5 - k) 0 rfl ⟨by omega,rfl⟩ (fun k G=>?_);obtain⟨h1,h2⟩:=G;rcases Nat.lt_or_ge k 5 with h3|h3
 ·
  obtain⟨s,hs⟩:=am (xs:=k7) (k:=k) h3;have hc:=DL hs
  have v:s.length<=1000000:=by
   have:∀x∈k7,x.length=2:=by decide
   rw[this s (List.mem_of_getElem? hs)];omega
  have y:=Lm (p:=s) hl v;have u:=sd (fun s=>eW s l) hs
  cases hp:eW s l with
  |true=>
   rw[hp]at y;have e:fp l=2:=by unfold fp;rw[h2,u,hp];rfl
   rw[e];exact af
  |false=>
   rw[hp]at y;have e:((k7.drop k).any fun s=>eW s l)=((k7.drop (k+1)).any fun s=>eW s l):=by rw[u,hp];rfl
   refine ar ?_;exact⟨k+1,rfl,rfl,⟨by omega,h2.trans e⟩,by omega⟩
 ·
  have u:=sf (l:=k7) (fun s=>eW s l) (show k7.length<=k from h3)
  cases l with
  |nil=>
   have e:fp []=0:=by unfold fp;rw[h2,u];rfl
   have D:bs ([]:List UInt8)=⟨#[]⟩:=rfl;rw[e];exact af
  |cons b r=>
   have J:¬bs (b::r)=bs []:=fun h=>by have:=qH h;cases this
   have Z:(b::r)[0]?=some b:=rfl;have V:=Ln (s:=bs k8) (b:=b);have hm:=DQ k8 b;have hd:(bs k8).data.toList=k8:=rfl;rw[hd]at V;have e:fp (b::r)=if b∈k8 then 1 else 0:=by unfold fp;rw[h2,u];rfl
   by_cases hs:b∈k8
   ·
    have z:=hm.2 hs;rw[e,if_pos hs];generalize Lib.indexByte k8 b=n at*
    exact af
   ·
    have z:¬0<=Lib.indexByte k8 b:=fun h=>hs (hm.1 h);rw[e,if_neg hs];generalize Lib.indexByte k8 b=n at*
    exact af
def Lo{b:UInt8}{r:List UInt8}(hl:(b::r).length<=1000000):Cl dL 206 [.t (.str (bs (b::r)))] [] (.t (.bool (pi b r))) []:=by
 have z:(bs (b::r)).size=(b::r).length:=eJ _;have D:(b::r)[0]?=some b:=rfl;have u:(b::r).length=r.length+1:=rfl;have v:=zb b;have y:=vC b;have G:=DR hl;refine Cl.ao rfl Tryz.func206 rfl rfl rfl ?_;unfold pi
 cases h1:ec b with
 |true=>
  rw[h1]at v;exact af
 |false=>
  rw[h1]at v
  cases h2:bR b with
  |true=>
   rw[h2]at y;exact af
  |false=>
   rw[h2]at y;by_cases h3:0 <fp (b::r)
   ·
    rw[decide_eq_true h3];exact af
   ·
    rw[decide_eq_false h3];exact af
def jw:List AV:=cT.map fun w=>.str ⟨w.toArray⟩
def iy:List AV:=cT.map fun _=>.bool true
def Lr:Cl ai 197 [] [] (.lm 0) [.map false jw (iy.map .t)]:=⟨60,by kernel_rfl⟩
def Lt(l:List UInt8):Cl ai 187 [.t (.str (bs l))] [] (.fn (.func 198) 0 [.lp 0 0,.lp 1 0]) [.box false 9 [.t (.str (bs l))],.box false 178 [.t (.mp jw iy)]]:=by
 have k:=Lr;refine Cl.ao rfl Tryz.func187 rfl rfl rfl ?_;exact af
def Lu:pk cT jw iy=true:=by kernel_rfl
def Lv{l:List UInt8}(hl:l.length<=1000000):ai.seq 198 [.tp [.str (bs l)],.tp [.mp jw iy]]=some ([nT l],false):=by
 have h2:Nat.ble (bs l).size 1000000=true:=by rw[eJ,Nat.ble_eq];omega
 have e:(pk cT jw iy&&Nat.ble (bs l).size 1000000)=true:=by rw[Lu,h2];rfl
 show(match(match pk cT jw iy&&Nat.ble (bs l).size 1000000 with|true=>some ([nT (bs l).data.toList],false)|false=>none)with|some r=>some r|none=>yT 198 [.tp [.str (bs l)],.tp [.mp jw iy]])=_
 rw[e];rfl
def o9.Lw{g:Cfg}{f:Nat}{asg body:Code}{env:Env}{fr:Fr}{K:Out->Env->Fr->Prop}{u:List Nat}{y:List AV}{bs:Fr}(F:Fr)(hl:Nat.beq y.length u.length=true)(hb:dx fr (List.range fr.length)=some bs)(v:(bs.map fun b=>cL (b.sub (aX (List.range fr.length))))=F)
  (h:ac g f asg (nu u y fun t=>(env t).sub (aX (List.range fr.length))) F fun o e r=>o=.normal/\ac g f body e r (Cp (g.lv f (c6 body)) env fr K)):o9 g f u asg body y env fr K:=by
 subst v;exact o9.mk hl hb h
def Lx{l:List UInt8}(hl:l.length<=1000000):Cl ai 168 [.t (.str (bs l))] [] (.t (.int .i64 (nQ l))) []:=by
 have U:(bs l).size=l.length:=eJ l;have kt:=Lt l;have D:=Lv hl;refine Cl.ao rfl Tryz.func168 rfl rfl rfl ?_;by_cases G:l.length=0
 ·
  obtain rfl:l=[]:=List.length_eq_zero_iff.1 G;have I:bs ([]:List UInt8)=⟨#[]⟩:=rfl;have e:nQ []=0:=rfl;rw[e];exact af
 ·
  have J:¬bs l=⟨#[]⟩:=fun h=>by
   have:(bs l).size=0:=by rw[h];rfl
   omega
  by_cases h1:4096 <l.length
  ·
   have e:nQ l=0:=by unfold nQ;rw[if_pos (.inr h1)]
   rw[e];exact af
  ·
   have e:nQ l=if aT false l=0/\aT false l+(fT (l.drop (aT false l))).2=l.length then(fT (l.drop (aT false l))).1 else 0:=by unfold nQ;rw[if_neg (by omega)]
   rw[e];obtain⟨n,z⟩:∃n,aT false l=n:=⟨_,rfl⟩;obtain⟨T,y⟩:∃T,fT (l.drop (aT false l))=T:=⟨_,rfl⟩;have Z:nT l=[.agg [.int .i64 T.1,.int .i64 0,.int .i64 (n:Int),.int .i64 ((n+T.2:Nat):Int)]]:=by unfold nT;rw[y,z]
   rw[Z]at D;rw[z]at y;rw[z,y];generalize jw=K at*
   generalize iy=V at*
   refine ar ?_;refine ac.range (yss:=[[.agg [.int .i64 T.1,.int .i64 0,.int .i64 (n:Int),.int .i64 ((n+T.2:Nat):Int)]]]) (wh:=false) (fr1:=[.box false 9 [.t (.str (bs l))],.box false 3 [.t (.int .i64 0)],.box true 9 [.t (.str (bs l))],.box true 178 [.t (.mp K V)]]) rfl rfl D rfl ?_;refine o8.cons ?_;refine o9.Lw [.box false 9 [.t (.str (bs l))],.box false 3 [.t (.int .i64 0)],.box true 9 [.t (.str (bs l))],.box true 178 [.t (.mp K V)]] rfl rfl rfl ?_;by_cases v:n=0
   ·
    by_cases u:n+T.2=l.length
    ·
     rw[if_pos ⟨v,u⟩];refine ar ?_;refine⟨rfl,?_⟩;refine ar ?_;refine⟨by kernel_rfl,?_⟩;exact af
    ·
     rw[if_neg fun h=>u h.2];refine ar ?_;refine⟨rfl,?_⟩;refine ar ?_;refine⟨by kernel_rfl,?_⟩;exact af
   ·
    rw[if_neg fun h=>v h.1];refine ar ?_;refine⟨rfl,?_⟩;refine ar ?_;refine⟨by kernel_rfl,?_⟩;exact af
def Ly{l:List UInt8}(hl:l.length<=1000000):Cl ai 135 [.t (.str (bs l))] [] (.t (.bool (nL l))) []:=by
 have u:(bs l).size=l.length:=eJ l;have v:=Lx hl;rw[JX]at v;refine Cl.ao rfl Tryz.func135 rfl rfl rfl ?_;unfold nL;generalize nK l=k at*
 by_cases h1:l.length<=16
 ·
  by_cases h2:k=1
  ·
   rw[decide_eq_true h1,decide_eq_true h2];exact af
  ·
   rw[decide_eq_true h1,decide_eq_false h2];exact af
 ·
  rw[decide_eq_false h1];rw[Bool.and_comm];exact af
def Lz{C:List Int}{p:Int->Bool}(hl:C.length<=140737488351232)(hp:∀x∈C,Cl ai 167 [.t (.int .i64 x)] [] (.t (.bool (p x))) []):Cl ai 32 [.t (ax C),.t (.fn (.func 167) 0 [])] [] (.t (.int .i64 (a8 p C 0))) []:=by
 have z:=aQ C;refine Cl.ao rfl Tryz.func32 rfl rfl rfl ?_;refine ar ?_;refine aC.ind (fun q:Nat=>[(8,.t (.int .i64 (q:Int)))]) (fun q=>q<=C.length/\a8 p C 0=a8 p (C.drop q) q) (fun q=>C.length - q) 0 rfl (by simp) (fun q D=>?_);obtain⟨h1,h2⟩:=D;rw[h2];rcases Nat.lt_or_ge q C.length with h3|h3
 ·
  obtain⟨e,u⟩:=am h3;have G:=aU u;have v:=hp e (List.mem_of_getElem? u);rw[drop_at u,gV];obtain⟨b,y⟩:∃b,p e=b:=⟨_,rfl⟩;rw[y]at v⊢
  cases b with
  |true=>
   exact af
  |false=>
   exact af
 ·
  rw[List.drop_of_length_le h3];exact af
def LA{C:List Int}{p:Int->Bool}(hl:C.length<=140737488351232)(hp:∀x∈C,Cl ai 167 [.t (.int .i64 x)] [] (.t (.bool (p x))) []):Cl ai 11 [.t (ax C),.t (.fn (.func 167) 0 [])] [] (.t (.bool (C.any p))) []:=by
 have u:=Lz hl hp;rw[<- gy p C 0 (by omega)];refine Cl.ao rfl Tryz.func11 rfl rfl rfl ?_;obtain⟨n,v⟩:∃n,a8 p C 0=n:=⟨_,rfl⟩;rw[v]at u⊢;exact af
def LB{C:List Int}{p:Int->Bool}(hl:C.length<=140737488351232)(hp:∀x∈C,Cl ai 31 [.t (.int .i64 x)] [] (.t (.bool (p x))) []):Cl ai 32 [.t (ax C),.t (.fn (.func 31) 0 [])] [] (.t (.int .i64 (a8 p C 0))) []:=by
 have z:=aQ C;refine Cl.ao rfl Tryz.func32 rfl rfl rfl ?_;refine ar ?_;refine aC.ind (fun q:Nat=>[(8,.t (.int .i64 (q:Int)))]) (fun q=>q<=C.length/\a8 p C 0=a8 p (C.drop q) q) (fun q=>C.length - q) 0 rfl (by simp) (fun q D=>?_);obtain⟨h1,h2⟩:=D;rw[h2];rcases Nat.lt_or_ge q C.length with h3|h3
 ·
  obtain⟨e,u⟩:=am h3;have G:=aU u;have v:=hp e (List.mem_of_getElem? u);rw[drop_at u,gV];obtain⟨b,y⟩:∃b,p e=b:=⟨_,rfl⟩;rw[y]at v⊢
  cases b with
  |true=>
   exact af
  |false=>
   exact af
 ·
  rw[List.drop_of_length_le h3];exact af
def DS{C:List Int}{p:Int->Bool}(hl:C.length<=140737488351232)(hp:∀x∈C,Cl ai 31 [.t (.int .i64 x)] [] (.t (.bool (p x))) []):Cl ai 11 [.t (ax C),.t (.fn (.func 31) 0 [])] [] (.t (.bool (C.any p))) []:=by
 have u:=LB hl hp;rw[<- gy p C 0 (by omega)];refine Cl.ao rfl Tryz.func11 rfl rfl rfl ?_;obtain⟨n,v⟩:∃n,a8 p C 0=n:=⟨_,rfl⟩;rw[v]at u⊢;exact af
end Go.Proofs.YtjolgbkkocjpgaaGreatDoor
