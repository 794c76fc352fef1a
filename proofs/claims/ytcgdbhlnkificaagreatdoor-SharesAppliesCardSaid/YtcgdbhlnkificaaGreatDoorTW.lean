/- Law 52: clocks compared. No condition. -/
import Derived.Test.YtcgdbhlnkificaaGreatDoorTX
import Derived.Test.YtcgdbhlnkificaaGreatDoorTS
set_option linter.all false
namespace Go.Proofs.YtcgdbhlnkificaaGreatDoor
open Go.RowKit
set_option maxRecDepth 100000
def cx(e:Ev):List AV:=[.int .i64 e.r,.int .i64 e.n,.int .i64 e.t,aD e.past,.int .i64 e.k,.int .i64 e.a,.int .i64 e.gk,.int .i64 e.gi,.int .i64 e.ge,.int .i64 e.ga,.int .i64 e.to,.int .i64 e.pl,.int .i64 e.se]
def c6(e:Ev):AV:=.agg (cx e)
def bB{α:Type}(p:α->Bool):List α->Int->Int
 |[],_=> -1
 |x::xs,i=>if p x then i else bB p xs (i+1)
def ly{α:Type}(p:α->Bool)(x:α)(xs:List α)(i:Int):bB p (x::xs) i=if p x then i else bB p xs (i+1):=rfl
def drop_at{α:Type}{xs:List α}{k:Nat}{x:α}(h:xs[k]?=some x):xs.drop k=x::xs.drop (k+1):=by
 obtain⟨h1,rfl⟩:=List.getElem?_eq_some_iff.1 h;exact List.drop_eq_getElem_cons h1
theorem kF{α:Type}(p:α->Bool):∀(xs:List α) (i:Int),0<=i->decide (0<=bB p xs i)=xs.any p
 |[],i,_=>rfl
 |x::xs,i,h=>by
  unfold bB
  cases u:p x with
  |true=>simp[u,h]
  |false=>simp only[List.any_cons,u,Bool.false_or];exact kF p xs (i+1) (by omega)
def I3{xs v:List Int}(hl:xs.length<=140737488351232)(hm:v.length<=140737488351232):Cl aj 153 [.t (aD xs),.t (aD v)] [] (.t (.bool (xs==v))) []:=by
 refine Cl.ap rfl Tryz.func153 rfl rfl rfl ?_;by_cases y:xs.length=v.length
 ·
  refine aq ?_;refine az.ind (fun q:Nat=>[(13,.t (.int .i64 (q:Int)))]) (fun q=>q<=xs.length/\xs.take q=v.take q) (fun q=>xs.length - q) 0 rfl (by simp) (fun q D=>?_);obtain⟨h1,h2⟩:=D;rcases Nat.lt_or_ge q xs.length with h3|h3
  ·
   obtain⟨n,z⟩:=am h3;obtain⟨m,u⟩:=am (xs:=v) (k:=q) (by omega);have G:=bg z;have hd:=bg u
   repeat'(first
|((with_reducible apply aa.aF);(case hp=>exact ak))
|((with_reducible apply aa.gA)<;>intro D)
|(refine aw ?_)
|((with_reducible apply aa.u0);(case hx=>exact ae))
|fail)
   all_goals first
    |(refine ba (.inr rfl) rfl ?_)
    |(refine⟨q+1,rfl,rfl,⟨by omega,?_⟩,by omega⟩)
   all_goals first
    |(rw[List.take_add_one,List.take_add_one,h2,z,u];simp_all;done)
    |(symm;rw[beq_eq_false_iff_ne];rintro rfl;rw[z]at u;cases u;omega)
  ·
   rw[List.take_of_length_le h3,List.take_of_length_le (by omega)]at h2
   repeat'(first
|((with_reducible apply aa.bk);(case hp=>exact ak))
|(refine aw ?_)
|((with_reducible apply aa.u0);(case hx=>exact ae))
|fail)
   all_goals(refine ba (.inr rfl) rfl ?_;rw[h2];simp)
 ·
  refine aq ?_
  all_goals(refine ba (.inr rfl) rfl ?_;symm;rw[beq_eq_false_iff_ne];rintro rfl;exact y rfl)
def Si(a b c d:Int):gI aj.P 20 51 [.int .i64 a,.int .i64 b,.int .i64 c,.int .i64 d] [.int .i64 0,.int .i64 0,.int .i64 0,.int .i64 0]=some ((decide (a=0)&&(decide (b=0)&&(decide (c=0)&&true)))&&(decide (d=0)&&true)):=by kernel_rfl
def zg:aj.P.eqGuardType aj.P.depth 51=false:=by kernel_rfl
set_option maxHeartbeats 4000000
def Jy(e:Ev):Cl aj 111 [.t (c6 e)] [] (.lm 0) [.map false [.int .i64 0,.int .i64 1,.int .i64 2] [.fn (.func 150) 0 [.lp 1 0],.fn (.func 151) 0 [.lp 1 0],.fn (.func 152) 0 [.lp 1 0]],.box false 53 ((cx e).map .t)]:=⟨3,by kernel_rfl⟩
def mW(n l h:Int):Cl aj 110 [.t (.int .i64 n),.t (.int .i64 l),.t (.int .i64 h)] [] (.t (.bool (dA n l h))) []:=Hr n l h
def qz(a gk gi ge ga to pl se:Int):List SV:=[.t (.int .i64 0),.t (.int .i64 0),.t (.int .i64 0),.nil,.t (.int .i64 0),.t (.int .i64 a),.t (.int .i64 gk),.t (.int .i64 gi),.t (.int .i64 ge),.t (.int .i64 ga),.t (.int .i64 to),.t (.int .i64 pl),.t (.int .i64 se)]
section
variable (e:Ev) (a gk gi ge ga to pl se:Int)
def Js:Cl aj 150 [.lp 0 0,.t (.tp (cx e))] [.box false 53 (qz a gk gi ge ga to pl se)] (.t (.bool (sd e))) [.box false 53 (qz 0 gk gi ge ga to 0 0)]:=by
 refine Cl.ap rfl Tryz.func150 rfl rfl rfl ?_
 repeat'(first
|((with_reducible apply aa.jR (b:=dA _ _ _))<;>intro u)
|((with_reducible apply aa.ic (b:=dA _ _ _))<;>intro u)
|(refine aw ?_)
|((with_reducible apply aa.av);(case hW=>exact rfl);(case hx=>first
|(exact ai (mW _ _ _))
|exact ae))
|((with_reducible apply aa.u0);(case hx=>first
|(exact ai (mW _ _ _))
|exact ae))
|fail)
 all_goals(refine ba (.inr rfl) rfl ?_;simp[sd, *])
def Ju:Cl aj 152 [.lp 0 0,.t (.tp (cx e))] [.box false 53 (qz a gk gi ge ga to pl se)] (.t (.bool (vR e))) [.box false 53 (qz a gk gi ge ga to 0 0)]:=by
 refine Cl.ap rfl Tryz.func152 rfl rfl rfl ?_
 repeat'(first
|((with_reducible apply aa.jR (b:=dA _ _ _))<;>intro u)
|((with_reducible apply aa.ic (b:=dA _ _ _))<;>intro u)
|(refine aw ?_)
|((with_reducible apply aa.av);(case hW=>exact rfl);(case hx=>first
|(exact ai (mW _ _ _))
|exact ae))
|((with_reducible apply aa.u0);(case hx=>first
|(exact ai (mW _ _ _))
|exact ae))
|fail)
 all_goals(refine ba (.inr rfl) rfl ?_;simp[vR, *])
def Jt(hl:e.past.length<=140737488351232):Cl aj 151 [.lp 0 0,.t (.tp (cx e))] [.box false 53 (qz a gk gi ge ga to pl se)] (.t (.bool (qT e))) [.box false 53 (qz a 0 0 0 0 0 pl se)]:=by
 refine Cl.ap rfl Tryz.func151 rfl rfl rfl ?_
 repeat'(first
|((with_reducible apply aa.aX)<;>intro u)
|((with_reducible apply aa.jR (b:=dA _ _ _))<;>intro u)
|((with_reducible apply aa.fz)<;>intro u)
|((with_reducible apply aa.ic (b:=dA _ _ _))<;>intro u)
|(refine aw ?_)
|((with_reducible apply aa.av);(case hW=>exact rfl);(case hx=>first
|(exact ai (mW _ _ _))
|exact ae))
|((with_reducible apply aa.u0);(case hx=>first
|(exact ai (mW _ _ _))
|exact ae))
|fail)
 all_goals(refine ba (.inr rfl) rfl ?_;simp_all[qT])
end
def lu(e f:Ev):Bool:=decide (e.r=f.r)&&(decide (e.n=f.n)&&(decide (e.t=f.t)&&((e.past==f.past)&&(decide (e.k=f.k)&&(decide (e.a=f.a)&&((decide (e.gk=f.gk)&&(decide (e.gi=f.gi)&&(decide (e.ge=f.ge)&&decide (e.ga=f.ga))))&&(decide (e.to=f.to)&&(decide (e.pl=f.pl)&&decide (e.se=f.se)))))))))
def zf(a b c d u v y z:Int):gI aj.P 20 51 [.int .i64 a,.int .i64 b,.int .i64 c,.int .i64 d] [.int .i64 u,.int .i64 v,.int .i64 y,.int .i64 z]=some ((decide (a=u)&&(decide (b=v)&&(decide (c=y)&&true)))&&(decide (d=z)&&true)):=by kernel_rfl
def xX(e f:Ev)(he:e.past.length<=140737488351232)(hf:f.past.length<=140737488351232):Cl aj 112 [.t (c6 e),.t (c6 f)] [] (.t (.bool (lu e f))) []:=by
 refine Cl.ap rfl Tryz.func112 rfl rfl rfl ?_
 repeat'(first
|((with_reducible apply aa.aX)<;>intro u)
|((with_reducible apply aa.bi)<;>intro u)
|((with_reducible apply aa.ic (b:=_==_))<;>intro u)
|((with_reducible apply aa.ic (b:=_&&_))<;>intro u)
|(refine aw ?_)
|((with_reducible apply aa.av);(case hW=>exact rfl);(case hx=>first
|((with_reducible apply af.eqs);(case hx|hy=>exact rfl);(case hg=>exact zg);(case ht=>exact rfl);(case hr=>exact zf _ _ _ _ _ _ _ _))
|(exact ai (I3 he hf))
|exact ae))
|((with_reducible apply aa.u0);(case hx=>exact ae))
|fail)
 all_goals(refine ba (.inr rfl) rfl ?_;simp_all[lu])
set_option maxRecDepth 100000
set_option maxHeartbeats 2000000
abbrev nk:Ev:=⟨0,0,0,[],0,0,0,0,0,0,0,0,0⟩
def yb(e:Ev):lu ⟨0,0,0,[],0,0,e.gk,e.gi,e.ge,e.ga,e.to,0,0⟩ nk=qU e:=by
 rw[Bool.eq_iff_iff];simp[lu,qU,and_assoc]
def yc(e:Ev):lu ⟨0,0,0,[],0,e.a,0,0,0,0,0,e.pl,e.se⟩ nk=(decide (e.a=0)&&(decide (e.pl=0)&&decide (e.se=0))):=by
 rw[Bool.eq_iff_iff];simp[lu]
def yd(e:Ev):lu ⟨0,0,0,[],0,e.a,e.gk,e.gi,e.ge,e.ga,e.to,0,0⟩ nk=(decide (e.a=0)&&qU e):=by
 rw[Bool.eq_iff_iff];simp[lu,qU,and_assoc]
def sN(k:Int):Option (Option Nat):=dW (.int .i64) (.int .i64 k) [.int .i64 0,.int .i64 1,.int .i64 2] 0
def Jm{k:Int}(h:k=0):sN k=some (some 0):=by subst h;rfl
def Jn{k:Int}(h:k=1):sN k=some (some 1):=by subst h;rfl
def Jo{k:Int}(h:k=2):sN k=some (some 2):=by subst h;rfl
def Jp{k:Int}(h0:k≠0)(h1:k≠1)(h2:k≠2):sN k=some none:=by simp[sN,dW,jx,h0,h1,h2]
def Jw(e:Ev)(hl:e.past.length<=140737488351232):Cl aj 69 [.t (c6 e)] [] (.t (.bool (ew e))) []:=by
 refine Cl.ap rfl Tryz.func69 rfl rfl rfl ?_;have y:=Qk hl
 cases hv:je e.past with
 |false=>
  rw[hv]at y;refine aq ?_
  all_goals(refine ba (.inr rfl) rfl ?_;simp[ew,oh,hv])
 |true=>
  rw[hv]at y
  cases D:dA e.r 0 ((e.past.length:Int) - 1)with
  |false=>
   have u:=mW e.r 0 ((e.past.length:Int) - 1);rw[D]at u;refine aq ?_
   all_goals(refine ba (.inr rfl) rfl ?_;simp[ew,oh,hv,D])
  |true=>
   have u:=mW e.r 0 ((e.past.length:Int) - 1);rw[D]at u;have hr:0<=e.r/\e.r <e.past.length:=by simp[dA]at D;omega
   obtain⟨Z,h1⟩:=hr;obtain⟨x,hx⟩:=am (xs:=e.past) (k:=e.r.toNat) (by omega);have hc:=bg hx;have hd:=fL hx;have V:=D8 hv hx
   repeat'(first
|((with_reducible apply aa.bi)<;>intro z)
|((with_reducible apply aa.fz)<;>intro z)
|((with_reducible apply aa.ic (b:=dA _ _ _))<;>intro z)
|(refine aw ?_)
|((with_reducible apply aa.av);(case hW=>exact rfl);(case hx=>first
|(exact ai u)
|(exact ai (mW _ _ _))
|exact ae))
|((with_reducible apply aa.u0);(case hx=>first
|(exact ai y)
|(exact zr (Jy e))
|exact ae))
|fail)
   all_goals first
    |(refine ba (.inr rfl) rfl ?_;rw[ew,oh,hd];simp[*];first|done|omega)
    |skip
   have G:oh e=true:=by rw[oh,hd];simp[*];omega
   by_cases I:e.k=0
   ·
    repeat'(first
|((with_reducible apply aa.jR (b:=sd _))<;>intro z)
|((with_reducible apply aa.ic (b:=lu _ _))<;>intro z)
|(refine aw ?_)
|((with_reducible apply aa.av);(case hW=>exact rfl);(case hx=>first
|((with_reducible apply af.qy (parts:=#[]) (cs:=[.t (.int .i64 0),.t (.int .i64 0),.t (.int .i64 0),.nil,.t (.int .i64 0),.t (.int .i64 0),.t (.int .i64 0),.t (.int .i64 0),.t (.int .i64 0),.t (.int .i64 0),.t (.int .i64 0),.t (.int .i64 0),.t (.int .i64 0)]) (v:=.agg [.t (.int .i64 0),.t (.int .i64 0),.t (.int .i64 0),.nil,.t (.int .i64 0),.t (.int .i64 0),.t (.int .i64 0),.t (.int .i64 0),.t (.int .i64 0),.t (.int .i64 0),.t (.int .i64 0),.t (.int .i64 0),.t (.int .i64 0)]));(case ho=>kernel_rfl);(case h=>kernel_rfl);(case hv=>kernel_rfl))
|((with_reducible apply af.so);(case hcal|hav|hx|hh|hm=>exact rfl);(case hcl=>exact xX ⟨0,0,0,[],0,0,e.gk,e.gi,e.ge,e.ga,e.to,0,0⟩ nk (by simp) (by simp[nk]));(case hr=>exact rfl))
|exact ae))
|((with_reducible apply aa.u0);(case hx=>first
|((with_reducible apply af.oC);(case hm|hk|ho=>exact rfl);(case hf=>exact Jm I);(case hz=>exact rfl))
|((with_reducible apply af.qy (cs:=[.t (.int .i64 0),.t (.int .i64 0),.t (.int .i64 0),.nil,.t (.int .i64 0),.t (.int .i64 e.a),.t (.int .i64 e.gk),.t (.int .i64 e.gi),.t (.int .i64 e.ge),.t (.int .i64 e.ga),.t (.int .i64 e.to),.t (.int .i64 e.pl),.t (.int .i64 e.se)]) (v:=.agg [.t (.int .i64 0),.t (.int .i64 0),.t (.int .i64 0),.nil,.t (.int .i64 0),.t (.int .i64 e.a),.t (.int .i64 e.gk),.t (.int .i64 e.gi),.t (.int .i64 e.ge),.t (.int .i64 e.ga),.t (.int .i64 e.to),.t (.int .i64 e.pl),.t (.int .i64 e.se)]));(case ho=>kernel_rfl);(case h=>kernel_rfl);(case hv=>kernel_rfl))
|(exact zt [1] (Js e _ _ _ _ _ _ _ _))
|exact ae))
|fail)
    all_goals(refine ba (.inr rfl) rfl ?_;clear y u;(try simp only[yb,yc,yd]at*);rw[ew,G];simp only[*];simp)
   by_cases J:e.k=1
   ·
    repeat'(first
|((with_reducible apply aa.jR (b:=qT _))<;>intro z)
|((with_reducible apply aa.ic (b:=lu _ _))<;>intro z)
|(refine aw ?_)
|((with_reducible apply aa.av);(case hW=>exact rfl);(case hx=>first
|((with_reducible apply af.qy (parts:=#[]) (cs:=[.t (.int .i64 0),.t (.int .i64 0),.t (.int .i64 0),.nil,.t (.int .i64 0),.t (.int .i64 0),.t (.int .i64 0),.t (.int .i64 0),.t (.int .i64 0),.t (.int .i64 0),.t (.int .i64 0),.t (.int .i64 0),.t (.int .i64 0)]) (v:=.agg [.t (.int .i64 0),.t (.int .i64 0),.t (.int .i64 0),.nil,.t (.int .i64 0),.t (.int .i64 0),.t (.int .i64 0),.t (.int .i64 0),.t (.int .i64 0),.t (.int .i64 0),.t (.int .i64 0),.t (.int .i64 0),.t (.int .i64 0)]));(case ho=>kernel_rfl);(case h=>kernel_rfl);(case hv=>kernel_rfl))
|((with_reducible apply af.so);(case hcal|hav|hx|hh|hm=>exact rfl);(case hcl=>exact xX ⟨0,0,0,[],0,e.a,0,0,0,0,0,e.pl,e.se⟩ nk (by simp) (by simp[nk]));(case hr=>exact rfl))
|exact ae))
|((with_reducible apply aa.u0);(case hx=>first
|((with_reducible apply af.oC);(case hm|hk|ho=>exact rfl);(case hf=>exact Jn J);(case hz=>exact rfl))
|((with_reducible apply af.qy (cs:=[.t (.int .i64 0),.t (.int .i64 0),.t (.int .i64 0),.nil,.t (.int .i64 0),.t (.int .i64 e.a),.t (.int .i64 e.gk),.t (.int .i64 e.gi),.t (.int .i64 e.ge),.t (.int .i64 e.ga),.t (.int .i64 e.to),.t (.int .i64 e.pl),.t (.int .i64 e.se)]) (v:=.agg [.t (.int .i64 0),.t (.int .i64 0),.t (.int .i64 0),.nil,.t (.int .i64 0),.t (.int .i64 e.a),.t (.int .i64 e.gk),.t (.int .i64 e.gi),.t (.int .i64 e.ge),.t (.int .i64 e.ga),.t (.int .i64 e.to),.t (.int .i64 e.pl),.t (.int .i64 e.se)]));(case ho=>kernel_rfl);(case h=>kernel_rfl);(case hv=>kernel_rfl))
|(exact zt [1] (Jt e _ _ _ _ _ _ _ _ hl))
|exact ae))
|fail)
    all_goals(refine ba (.inr rfl) rfl ?_;clear y u;(try simp only[yb,yc,yd]at*);rw[ew,G];simp only[*];simp)
   by_cases U:e.k=2
   ·
    repeat'(first
|((with_reducible apply aa.jR (b:=vR _))<;>intro z)
|((with_reducible apply aa.ic (b:=lu _ _))<;>intro z)
|(refine aw ?_)
|((with_reducible apply aa.av);(case hW=>exact rfl);(case hx=>first
|((with_reducible apply af.qy (parts:=#[]) (cs:=[.t (.int .i64 0),.t (.int .i64 0),.t (.int .i64 0),.nil,.t (.int .i64 0),.t (.int .i64 0),.t (.int .i64 0),.t (.int .i64 0),.t (.int .i64 0),.t (.int .i64 0),.t (.int .i64 0),.t (.int .i64 0),.t (.int .i64 0)]) (v:=.agg [.t (.int .i64 0),.t (.int .i64 0),.t (.int .i64 0),.nil,.t (.int .i64 0),.t (.int .i64 0),.t (.int .i64 0),.t (.int .i64 0),.t (.int .i64 0),.t (.int .i64 0),.t (.int .i64 0),.t (.int .i64 0),.t (.int .i64 0)]));(case ho=>kernel_rfl);(case h=>kernel_rfl);(case hv=>kernel_rfl))
|((with_reducible apply af.so);(case hcal|hav|hx|hh|hm=>exact rfl);(case hcl=>exact xX ⟨0,0,0,[],0,e.a,e.gk,e.gi,e.ge,e.ga,e.to,0,0⟩ nk (by simp) (by simp[nk]));(case hr=>exact rfl))
|exact ae))
|((with_reducible apply aa.u0);(case hx=>first
|((with_reducible apply af.oC);(case hm|hk|ho=>exact rfl);(case hf=>exact Jo U);(case hz=>exact rfl))
|((with_reducible apply af.qy (cs:=[.t (.int .i64 0),.t (.int .i64 0),.t (.int .i64 0),.nil,.t (.int .i64 0),.t (.int .i64 e.a),.t (.int .i64 e.gk),.t (.int .i64 e.gi),.t (.int .i64 e.ge),.t (.int .i64 e.ga),.t (.int .i64 e.to),.t (.int .i64 e.pl),.t (.int .i64 e.se)]) (v:=.agg [.t (.int .i64 0),.t (.int .i64 0),.t (.int .i64 0),.nil,.t (.int .i64 0),.t (.int .i64 e.a),.t (.int .i64 e.gk),.t (.int .i64 e.gi),.t (.int .i64 e.ge),.t (.int .i64 e.ga),.t (.int .i64 e.to),.t (.int .i64 e.pl),.t (.int .i64 e.se)]));(case ho=>kernel_rfl);(case h=>kernel_rfl);(case hv=>kernel_rfl))
|(exact zt [1] (Ju e _ _ _ _ _ _ _ _))
|exact ae))
|fail)
    all_goals(refine ba (.inr rfl) rfl ?_;clear y u;(try simp only[yb,yc,yd]at*);rw[ew,G];simp only[*];simp)
   repeat'(first
|(refine aw ?_)
|((with_reducible apply aa.u0);(case hx=>first
|((with_reducible apply af.lk);(case hm|hk|ho=>exact rfl);(case hf=>exact Jp I J U);(case hz=>exact rfl))
|exact ae))
|fail)
   all_goals(refine ba (.inr rfl) rfl ?_;clear y u;simp_all[ew])
set_option maxHeartbeats 4000000
def Sx{xs:List Int}(hl:xs.length<=140737488351232):Cl aj 125 [.t (aD xs)] [] (.t (.bool (je xs))) []:=by
 refine Cl.ap rfl Tryz.func125 rfl rfl rfl ?_;refine aq ?_;refine az.ind (fun q:Nat=>[(3,.t (.int .i64 (q:Int)))]) (fun q=>q<=xs.length/\(xs.take q).all rq=true) (fun q=>xs.length - q) 0 rfl (by simp) (fun q u=>?_);obtain⟨h1,h2⟩:=u;rcases Nat.lt_or_ge q xs.length with h3|h3
 ·
  obtain⟨n,v⟩:=am h3;have y:=bg v
  repeat'(first
|((with_reducible apply aa.aF);(case hp=>exact ak))
|((with_reducible apply aa.aX)<;>intro u)
|((with_reducible apply aa.bi)<;>intro u)
|(refine aw ?_)
|((with_reducible apply aa.av);(case hW=>exact rfl);(case hx=>exact ae))
|((with_reducible apply aa.u0);(case hx=>exact ae))
|fail)
  all_goals first
   |(refine ba (.inr rfl) rfl ?_)
   |(refine⟨q+1,rfl,rfl,⟨by omega,sj h2 v ?_⟩,by omega⟩)
  all_goals first
   |(rw[je,Hf v (by simp[rq];omega)];rfl)
   |(simp[rq];omega)
 ·
  have h4:=uy h2 h3
  repeat'(first
|((with_reducible apply aa.bk);(case hp=>exact ak))
|((with_reducible apply aa.aX)<;>intro u)
|((with_reducible apply aa.bi)<;>intro u)
|(refine aw ?_)
|((with_reducible apply aa.av);(case hW=>exact rfl);(case hx=>exact ae))
|((with_reducible apply aa.u0);(case hx=>exact ae))
|fail)
  all_goals(refine ba (.inr rfl) rfl ?_;rw[je,h4];simp;omega)
def Sr(e:Ev)(hl:e.past.length<=140737488351232):Cl aj 95 [.t (c6 e)] [] (.t (.bool (ew e))) []:=by
 refine Cl.ap rfl Tryz.func95 rfl rfl rfl ?_;have u:=Sx hl
 cases hv:je e.past with
 |false=>
  rw[hv]at u
  repeat'(first
|(refine aw ?_)
|((with_reducible apply aa.u0);(case hx=>first
|(exact ai u)
|exact ae))
|fail)
  all_goals(refine ba (.inr rfl) rfl ?_;simp[ew,oh,hv])
 |true=>
  rw[hv]at u;by_cases hr:0<=e.r/\e.r <e.past.length
  ·
   obtain⟨G,h1⟩:=hr;obtain⟨x,hx⟩:=am (xs:=e.past) (k:=e.r.toNat) (by omega);have hc:=bg hx;have hd:=fL hx;have D:=D8 hv hx
   repeat'(first
|(with_reducible apply ac.stop (id:=3))
|(with_reducible apply ac.seq)
|((with_reducible apply ac.text);(try case hm=>exact rfl))
|((with_reducible apply ac.drawn);(case hm=>exact rfl))
|(with_reducible first|apply ac.skip|apply ac.ret|apply aH|apply bL)
|((with_reducible apply ac.aR);(case hc=>exact rfl))
|((with_reducible apply ac.aY);(case hc=>exact rfl))
|((with_reducible apply aa.c_);(case hp=>exact ak))
|((with_reducible apply aa.bi)<;>intro v)
|((with_reducible apply aa.fz)<;>intro v)
|(with_reducible apply aa.aB)
|((with_reducible apply aa.gf);(case hW=>exact rfl))
|((with_reducible apply aa.av);(case hW=>exact rfl);(case hx=>exact ae))
|((with_reducible apply aa.u0);(case hx=>first
|(exact ai u)
|exact ae))
|fail)
   all_goals first
    |(refine ba (.inr rfl) rfl ?_;rw[ew,oh,hd];simp[*,dA];first|done|omega)
    |skip
   refine A0.go ?_;have y:oh e=true:=by rw[oh,hd];simp[*,dA];omega
   repeat'(first
|(with_reducible first|apply ac.seq|apply ac.block)
|((with_reducible apply ac.text);(try case hm=>exact rfl))
|(with_reducible first|apply ac.skip|apply ac.ret|apply aH|apply bL|apply fH|apply eV|apply aa.aB)
|((with_reducible apply aa.gd);(case hW=>first|exact JG rfl rfl|exact JF rfl rfl|((with_reducible apply JE);(case h=>exact rfl);(case he=>repeat(first|with_reducible exact Cc _ _ _|(with_reducible refine Ce rfl ?_)|with_reducible refine Cd ?_)))|((with_reducible apply JD);(case h=>exact rfl);(case he=>repeat(first|with_reducible exact Cc _ _ _|(with_reducible refine Ce rfl ?_)|with_reducible refine Cd ?_))));(case hx=>(intro z;first
|(
 rw[z]
 first
|((with_reducible apply af.mv);(conv=>lhs;whnf);try exact rfl)
|((with_reducible apply af.len);(case ha|hy|ht|hs=>exact rfl);(case hn=>first|exact List.length_map _|exact rfl))
|((with_reducible apply af.yh);(case hy|ho=>exact rfl);(case hn=>(conv=>lhs;whnf);try exact rfl))
|((with_reducible apply af.and);(case hc|hx|hy=>exact rfl))
|exact af.r fun _=>rfl)
|(((with_reducible apply af.yh);(case hy|ho=>exact rfl);(case hn=>(conv=>lhs;whnf);try exact rfl))))))
|((with_reducible apply aa.u0);(case hx=>first
|((with_reducible apply af.mv);(conv=>lhs;whnf);try exact rfl)
|((with_reducible apply af.asg);(conv=>lhs;whnf);try exact rfl)
|((with_reducible apply af.rn);(case hx|hy=>exact rfl);(case hg=>exact zg);(case ht=>exact rfl);(case hr=>exact Si _ _ _ _))
|((with_reducible apply af.yh);(case hy|ho=>exact rfl);(case hn=>(conv=>lhs;whnf);try exact rfl))
|((with_reducible apply af.al);(case hs=>exact fun _=>rfl);(case hz=>exact rfl);(case hc=>exact leq);(case hn=>exact Dy);(case hf=>exact leq))
|((with_reducible apply af.Pz);(case hs=>exact fun _=>rfl);(case ha|hy=>exact rfl);(case ht=>first|(with_reducible exact sz0)|(with_reducible exact eD)|(with_reducible exact qb)|(with_reducible exact sz3)|(with_reducible exact qc)|(with_reducible exact sz5)|(with_reducible exact sz6)|(with_reducible exact sz7)|(with_reducible exact sz8)|(with_reducible exact sz9)|exact rfl);(case ho=>kernel_rfl);(case hl=>kernel_rfl);(case hb=>exact rfl);(case hc=>kernel_rfl);(case hf=>exact leq))
|((with_reducible apply af.yM);(case hy=>exact rfl);(case ht=>first|(with_reducible exact sz0)|(with_reducible exact eD)|(with_reducible exact qb)|(with_reducible exact sz3)|(with_reducible exact qc)|(with_reducible exact sz5)|(with_reducible exact sz6)|(with_reducible exact sz7)|(with_reducible exact sz8)|(with_reducible exact sz9));(case hb=>exact rfl);(case hl=>kernel_rfl);(case hv=>exact rfl);(case hx=>(repeat'(first|exact jW.nil|(apply jW.cons)))))
|((with_reducible apply af.or);(case hc|hx|hy=>exact rfl))
|((with_reducible apply af.and);(case hc|hx|hy=>exact rfl))
|exact af.r fun _=>rfl))
|(((with_reducible apply ac.R7);(case hc=>exact rfl))<;>intro v)
|fail)
   all_goals(refine ba (.inr rfl) rfl ?_;clear u hc;rw[ew,y,Bool.eq_iff_iff];clear y hv hx hd)
   all_goals(simp only[Bool.or_eq_true,Bool.and_eq_true,Bool.not_eq_true',Bool.or_eq_false_iff,Bool.and_eq_false_iff,decide_eq_true_eq,decide_eq_false_iff_not,Bool.not_eq_false']at*)
   all_goals first
    |(simp[*,sd,vR,qU,dA];done)
    |(simp[*,sd,vR,qU,dA];omega)
    |(simp[*,qT,dA];by_cases hg:e.gk=1 <;>simp[hg]<;>omega)
    |skip
  ·
   repeat'(first
|((with_reducible apply aa.cj);(case hp=>exact ak))
|((with_reducible apply aa.bi)<;>intro v)
|(refine aw ?_)
|((with_reducible apply aa.av);(case hW=>exact rfl);(case hx=>exact ae))
|((with_reducible apply aa.u0);(case hx=>first
|(exact ai u)
|exact ae))
|fail)
   all_goals first
    |(refine ba (.inr rfl) rfl ?_;rw[ew,oh];simp[*,dA];first|done|omega)
    |skip
def D0(xs:List Int):fu 1 (aL xs)=true:=by simp[fu,aL,rv]
def nV(l:List (List Int)):(bA l).length=l.length:=by simp[bA]
def Nv{a b:List Int}(ha:a.length<=140737488351232)(hb:b.length<=140737488351232):Cl aj 89 [.t (aD a),.t (aD b)] [] (.t (.bool (a==b))) []:=by
 refine Cl.ap rfl Tryz.func89 rfl rfl rfl ?_;by_cases v:a.length=b.length
 ·
  refine aq ?_;refine az.ind (fun q:Nat=>[(5,.t (.int .i64 (q:Int)))]) (fun q=>q<=a.length/\a.take q=b.take q) (fun q=>a.length - q) 0 rfl (by simp) (fun q z=>?_);obtain⟨h1,h2⟩:=z;rcases Nat.lt_or_ge q a.length with h3|h3
  ·
   obtain⟨n,y⟩:=am h3;obtain⟨m,u⟩:=am (xs:=b) (k:=q) (by omega);have D:=bg y;have hd:=bg u
   repeat'(first
|((with_reducible apply aa.aF);(case hp=>exact ak))
|((with_reducible apply aa.gA)<;>intro z)
|(refine aw ?_)
|((with_reducible apply aa.u0);(case hx=>exact ae))
|fail)
   all_goals first
    |(refine ba (.inr rfl) rfl ?_)
    |(refine⟨q+1,rfl,rfl,⟨by omega,?_⟩,by omega⟩)
   all_goals first
    |(rw[List.take_add_one,List.take_add_one,h2,y,u];simp_all;done)
    |(symm;rw[beq_eq_false_iff_ne];rintro rfl;rw[y]at u;cases u;omega)
  ·
   rw[List.take_of_length_le h3,List.take_of_length_le (by omega)]at h2
   repeat'(first
|((with_reducible apply aa.bk);(case hp=>exact ak))
|(refine aw ?_)
|((with_reducible apply aa.u0);(case hx=>exact ae))
|fail)
   all_goals(refine ba (.inr rfl) rfl ?_;rw[h2];simp)
 ·
  refine aq ?_
  all_goals(refine ba (.inr rfl) rfl ?_;symm;rw[beq_eq_false_iff_ne];rintro rfl;exact v rfl)
end Go.Proofs.YtcgdbhlnkificaaGreatDoor
