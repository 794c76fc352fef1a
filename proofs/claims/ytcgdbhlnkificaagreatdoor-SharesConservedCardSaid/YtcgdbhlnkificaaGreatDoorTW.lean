/- Law 52: clocks compared. No condition. -/
import Derived.Test.YtcgdbhlnkificaaGreatDoorTX
import Derived.Test.YtcgdbhlnkificaaGreatDoorTS
set_option linter.all false
namespace Go.Proofs.YtcgdbhlnkificaaGreatDoor
open Go.RowKit
set_option maxRecDepth 100000
def S_{l:List (List Int)}{u:List Int}(h0:l[0]?=some u):(l.headD []).length=u.length:=by rw[TB h0]
def RX{l:List (List Int)}(hl:l.length<=140737488351232)(hc:∀c∈l,c.length<=140737488351232):Cl aj 114 [.t (jp l)] [] (.t (.bool (QX l))) []:=by
 refine Cl.ap rfl Tryz.func114 rfl rfl rfl ?_;refine aq ?_;refine az.ind (fun q:Nat=>[(7,.t (.int .i64 (q:Int)))]) (fun q=>q<=l.length/\(l.take q).all (Rk (l.headD []).length)=true) (fun q=>l.length - q) 0 rfl (by simp) (fun q y=>?_);obtain⟨h1,h2⟩:=y;rcases Nat.lt_or_ge q l.length with h3|h3
 ·
  obtain⟨c,v⟩:=am h3;obtain⟨G,u⟩:=am (xs:=l) (k:=0) (by omega);have I:=lf v;have D:=lf u;have z:=hc c (List.mem_of_getElem? v);have hd:=S_ u
  repeat'(first
|((with_reducible apply aa.aF);(case hp=>exact ak))
|((with_reducible apply aa.jR (b:=je _))<;>intro y)
|((with_reducible apply aa.fz)<;>intro y)
|(refine aw ?_)
|((with_reducible apply aa.av);(case hW=>exact rfl);(case hx=>exact ae))
|((with_reducible apply aa.u0);(case hx=>first
|(exact ai (Qk z))
|exact ae))
|fail)
  all_goals first
   |(refine ba (.inr rfl) rfl ?_)
   |(refine⟨q+1,rfl,rfl,⟨by omega,sj h2 v ?_⟩,by omega⟩)
  all_goals first
   |(rw[QX,Hf v (by rw[Rk,hd];simp[*];try omega)];rfl)
   |(rw[Rk,hd];simp[*];omega)
 ·
  have h4:=uy h2 h3
  repeat'(first
|(with_reducible apply ac.seq)
|((with_reducible apply ac.text);(try case hm=>exact rfl))
|(with_reducible first|apply ac.exit|apply ac.ret|apply aH|apply da|apply cY)
|((with_reducible apply ac.aY);(case hc=>exact rfl))
|((with_reducible apply aa.bk);(case hp=>exact ak))
|((with_reducible apply aa.aX)<;>intro y)
|(with_reducible apply aa.aB)
|((with_reducible apply aa.u0);(case hx=>exact ae))
|fail)
  all_goals(refine ba (.inr rfl) rfl ?_;rw[QX,h4];simp;first|done|omega|(rw[<- List.length_eq_zero_iff];omega))
def Tg{a b:List Int}(ha:a.length<=140737488351232)(hb:b.length<=140737488351232):Cl aj 130 [.t (aD a),.t (aD b)] [] (.aN [.t (.int .i64 (Q5 a b).1),.t (.int .i64 (Q5 a b).2)]) []:=by
 refine Cl.ap rfl Tryz.func130 rfl rfl rfl ?_;have h2:=RX (l:=[a,b]) (by simp) (by simp;omega)
 cases u:QX [a,b]with
 |false=>
  rw[u]at h2;refine aq ?_
  all_goals(refine SD (.inr rfl) rfl ?_;simp[Q5,u])
 |true=>
  rw[u]at h2;have v:=RY u
  repeat'(first
|((with_reducible apply aa.jR (b:=C3 _ _))<;>intro y)
|(refine aw ?_)
|((with_reducible apply aa.av);(case hW=>exact rfl);(case hx=>exact ae))
|((with_reducible apply aa.u0);(case hx=>first
|(exact ai h2)
|(exact ai (SJ ha v))
|(exact ai (SJ hb v.symm))
|exact ae))
|fail)
  all_goals(refine SD (.inr rfl) rfl ?_;simp[Q5, *])
def SG{a:List Int}{r n:Int}(ha:a.length<=140737488351232):Cl aj 79 [.t (aD a),.t (.agg [.int .i64 r,.int .i64 n])] [] (.t (.bool (hasS a r n))) []:=by
 refine Cl.ap rfl Tryz.func79 rfl rfl rfl ?_;by_cases v:0<=r/\r <a.length
 ·
  obtain⟨x,hx⟩:=am (xs:=a) (k:=r.toNat) (by omega);have z:=bg hx;have hd:=fL hx;obtain⟨y,h1⟩:=v
  repeat'(first
|((with_reducible apply aa.cj);(case hp=>exact ak))
|((with_reducible apply aa.jR (b:=je _))<;>intro u)
|((with_reducible apply aa.bi)<;>intro u)
|(refine aw ?_)
|((with_reducible apply aa.av);(case hW=>exact rfl);(case hx=>exact ae))
|((with_reducible apply aa.u0);(case hx=>first
|(exact ai (Qk ha))
|exact ae))
|fail)
  all_goals(refine ba (.inr rfl) rfl ?_;rw[hasS,hd];simp[*];try omega)
 ·
  repeat'(first
|((with_reducible apply aa.c_);(case hp=>exact ak))
|((with_reducible apply aa.jR (b:=je _))<;>intro u)
|((with_reducible apply aa.bi)<;>intro u)
|(refine aw ?_)
|((with_reducible apply aa.av);(case hW=>exact rfl);(case hx=>exact ae))
|((with_reducible apply aa.u0);(case hx=>first
|(exact ai (Qk ha))
|exact ae))
|fail)
  all_goals(refine ba (.inr rfl) rfl ?_;simp[hasS, *];try omega)
def cx(e:Ev):List AV:=[.int .i64 e.r,.int .i64 e.n,.int .i64 e.t,aD e.past,.int .i64 e.k,.int .i64 e.a,.int .i64 e.gk,.int .i64 e.gi,.int .i64 e.ge,.int .i64 e.ga,.int .i64 e.to,.int .i64 e.pl,.int .i64 e.se]
def c6(e:Ev):AV:=.agg (cx e)
def bB{α:Type}(p:α->Bool):List α->Int->Int
 |[],_=> -1
 |x::xs,i=>if p x then i else bB p xs (i+1)
def Rc{α:Type}(p:α->Bool)(x:α)(xs:List α)(i:Int):bB p (x::xs) i=if p x then i else bB p xs (i+1):=rfl
def drop_at{α:Type}{xs:List α}{k:Nat}{x:α}(h:xs[k]?=some x):xs.drop k=x::xs.drop (k+1):=by
 obtain⟨h1,rfl⟩:=List.getElem?_eq_some_iff.1 h;exact List.drop_eq_getElem_cons h1
theorem kF{α:Type}(p:α->Bool):∀(xs:List α) (i:Int),0<=i->decide (0<=bB p xs i)=xs.any p
 |[],i,_=>rfl
 |x::xs,i,h=>by
  unfold bB
  cases u:p x with
  |true=>simp[u,h]
  |false=>simp only[List.any_cons,u,Bool.false_or];exact kF p xs (i+1) (by omega)
def I3{xs v:List Int}(hl:xs.length<=140737488351232)(hm:v.length<=140737488351232):Cl aj 153 [.t (aD xs),.t (aD v)] [] (.t (.bool (xs==v))) []:=by
 refine Cl.ap rfl Tryz.func153 rfl rfl rfl ?_;by_cases y:xs.length=v.length
 ·
  refine aq ?_;refine az.ind (fun q:Nat=>[(13,.t (.int .i64 (q:Int)))]) (fun q=>q<=xs.length/\xs.take q=v.take q) (fun q=>xs.length - q) 0 rfl (by simp) (fun q D=>?_);obtain⟨h1,h2⟩:=D;rcases Nat.lt_or_ge q xs.length with h3|h3
  ·
   obtain⟨n,z⟩:=am h3;obtain⟨m,u⟩:=am (xs:=v) (k:=q) (by omega);have G:=bg z;have hd:=bg u
   repeat'(first
|((with_reducible apply aa.aF);(case hp=>exact ak))
|((with_reducible apply aa.gA)<;>intro D)
|(refine aw ?_)
|((with_reducible apply aa.u0);(case hx=>exact ae))
|fail)
   all_goals first
    |(refine ba (.inr rfl) rfl ?_)
    |(refine⟨q+1,rfl,rfl,⟨by omega,?_⟩,by omega⟩)
   all_goals first
    |(rw[List.take_add_one,List.take_add_one,h2,z,u];simp_all;done)
    |(symm;rw[beq_eq_false_iff_ne];rintro rfl;rw[z]at u;cases u;omega)
  ·
   rw[List.take_of_length_le h3,List.take_of_length_le (by omega)]at h2
   repeat'(first
|((with_reducible apply aa.bk);(case hp=>exact ak))
|(refine aw ?_)
|((with_reducible apply aa.u0);(case hx=>exact ae))
|fail)
   all_goals(refine ba (.inr rfl) rfl ?_;rw[h2];simp)
 ·
  refine aq ?_
  all_goals(refine ba (.inr rfl) rfl ?_;symm;rw[beq_eq_false_iff_ne];rintro rfl;exact y rfl)
def zg:aj.P.eqGuardType aj.P.depth 51=false:=by kernel_rfl
set_option maxHeartbeats 4000000
def Jy(e:Ev):Cl aj 111 [.t (c6 e)] [] (.lm 0) [.map false [.int .i64 0,.int .i64 1,.int .i64 2] [.fn (.func 150) 0 [.lp 1 0],.fn (.func 151) 0 [.lp 1 0],.fn (.func 152) 0 [.lp 1 0]],.box false 53 ((cx e).map .t)]:=⟨3,by kernel_rfl⟩
def mW(n l h:Int):Cl aj 110 [.t (.int .i64 n),.t (.int .i64 l),.t (.int .i64 h)] [] (.t (.bool (dA n l h))) []:=Hr n l h
def qz(a gk gi ge ga to pl se:Int):List SV:=[.t (.int .i64 0),.t (.int .i64 0),.t (.int .i64 0),.nil,.t (.int .i64 0),.t (.int .i64 a),.t (.int .i64 gk),.t (.int .i64 gi),.t (.int .i64 ge),.t (.int .i64 ga),.t (.int .i64 to),.t (.int .i64 pl),.t (.int .i64 se)]
section
variable (e:Ev) (a gk gi ge ga to pl se:Int)
def Js:Cl aj 150 [.lp 0 0,.t (.tp (cx e))] [.box false 53 (qz a gk gi ge ga to pl se)] (.t (.bool (sd e))) [.box false 53 (qz 0 gk gi ge ga to 0 0)]:=by
 refine Cl.ap rfl Tryz.func150 rfl rfl rfl ?_
 repeat'(first
|((with_reducible apply aa.jR (b:=dA _ _ _))<;>intro u)
|((with_reducible apply aa.ic (b:=dA _ _ _))<;>intro u)
|(refine aw ?_)
|((with_reducible apply aa.av);(case hW=>exact rfl);(case hx=>first
|(exact ai (mW _ _ _))
|exact ae))
|((with_reducible apply aa.u0);(case hx=>first
|(exact ai (mW _ _ _))
|exact ae))
|fail)
 all_goals(refine ba (.inr rfl) rfl ?_;simp[sd, *])
def Ju:Cl aj 152 [.lp 0 0,.t (.tp (cx e))] [.box false 53 (qz a gk gi ge ga to pl se)] (.t (.bool (vR e))) [.box false 53 (qz a gk gi ge ga to 0 0)]:=by
 refine Cl.ap rfl Tryz.func152 rfl rfl rfl ?_
 repeat'(first
|((with_reducible apply aa.jR (b:=dA _ _ _))<;>intro u)
|((with_reducible apply aa.ic (b:=dA _ _ _))<;>intro u)
|(refine aw ?_)
|((with_reducible apply aa.av);(case hW=>exact rfl);(case hx=>first
|(exact ai (mW _ _ _))
|exact ae))
|((with_reducible apply aa.u0);(case hx=>first
|(exact ai (mW _ _ _))
|exact ae))
|fail)
 all_goals(refine ba (.inr rfl) rfl ?_;simp[vR, *])
def Jt(hl:e.past.length<=140737488351232):Cl aj 151 [.lp 0 0,.t (.tp (cx e))] [.box false 53 (qz a gk gi ge ga to pl se)] (.t (.bool (qT e))) [.box false 53 (qz a 0 0 0 0 0 pl se)]:=by
 refine Cl.ap rfl Tryz.func151 rfl rfl rfl ?_
 repeat'(first
|((with_reducible apply aa.aX)<;>intro u)
|((with_reducible apply aa.jR (b:=dA _ _ _))<;>intro u)
|((with_reducible apply aa.fz)<;>intro u)
|((with_reducible apply aa.ic (b:=dA _ _ _))<;>intro u)
|(refine aw ?_)
|((with_reducible apply aa.av);(case hW=>exact rfl);(case hx=>first
|(exact ai (mW _ _ _))
|exact ae))
|((with_reducible apply aa.u0);(case hx=>first
|(exact ai (mW _ _ _))
|exact ae))
|fail)
 all_goals(refine ba (.inr rfl) rfl ?_;simp_all[qT])
end
def lu(e f:Ev):Bool:=decide (e.r=f.r)&&(decide (e.n=f.n)&&(decide (e.t=f.t)&&((e.past==f.past)&&(decide (e.k=f.k)&&(decide (e.a=f.a)&&((decide (e.gk=f.gk)&&(decide (e.gi=f.gi)&&(decide (e.ge=f.ge)&&decide (e.ga=f.ga))))&&(decide (e.to=f.to)&&(decide (e.pl=f.pl)&&decide (e.se=f.se)))))))))
def zf(a b c d u v y z:Int):gI aj.P 20 51 [.int .i64 a,.int .i64 b,.int .i64 c,.int .i64 d] [.int .i64 u,.int .i64 v,.int .i64 y,.int .i64 z]=some ((decide (a=u)&&(decide (b=v)&&(decide (c=y)&&true)))&&(decide (d=z)&&true)):=by kernel_rfl
def xX(e f:Ev)(he:e.past.length<=140737488351232)(hf:f.past.length<=140737488351232):Cl aj 112 [.t (c6 e),.t (c6 f)] [] (.t (.bool (lu e f))) []:=by
 refine Cl.ap rfl Tryz.func112 rfl rfl rfl ?_
 repeat'(first
|((with_reducible apply aa.aX)<;>intro u)
|((with_reducible apply aa.bi)<;>intro u)
|((with_reducible apply aa.ic (b:=_==_))<;>intro u)
|((with_reducible apply aa.ic (b:=_&&_))<;>intro u)
|(refine aw ?_)
|((with_reducible apply aa.av);(case hW=>exact rfl);(case hx=>first
|((with_reducible apply af.eqs);(case hx|hy=>exact rfl);(case hg=>exact zg);(case ht=>exact rfl);(case hr=>exact zf _ _ _ _ _ _ _ _))
|(exact ai (I3 he hf))
|exact ae))
|((with_reducible apply aa.u0);(case hx=>exact ae))
|fail)
 all_goals(refine ba (.inr rfl) rfl ?_;simp_all[lu])
set_option maxRecDepth 100000
set_option maxHeartbeats 2000000
abbrev nk:Ev:=⟨0,0,0,[],0,0,0,0,0,0,0,0,0⟩
def yb(e:Ev):lu ⟨0,0,0,[],0,0,e.gk,e.gi,e.ge,e.ga,e.to,0,0⟩ nk=qU e:=by
 rw[Bool.eq_iff_iff];simp[lu,qU,and_assoc]
def yc(e:Ev):lu ⟨0,0,0,[],0,e.a,0,0,0,0,0,e.pl,e.se⟩ nk=(decide (e.a=0)&&(decide (e.pl=0)&&decide (e.se=0))):=by
 rw[Bool.eq_iff_iff];simp[lu]
def yd(e:Ev):lu ⟨0,0,0,[],0,e.a,e.gk,e.gi,e.ge,e.ga,e.to,0,0⟩ nk=(decide (e.a=0)&&qU e):=by
 rw[Bool.eq_iff_iff];simp[lu,qU,and_assoc]
def sN(k:Int):Option (Option Nat):=dW (.int .i64) (.int .i64 k) [.int .i64 0,.int .i64 1,.int .i64 2] 0
def Jm{k:Int}(h:k=0):sN k=some (some 0):=by subst h;rfl
def Jn{k:Int}(h:k=1):sN k=some (some 1):=by subst h;rfl
def Jo{k:Int}(h:k=2):sN k=some (some 2):=by subst h;rfl
def Jp{k:Int}(h0:k≠0)(h1:k≠1)(h2:k≠2):sN k=some none:=by simp[sN,dW,jx,h0,h1,h2]
def Jw(e:Ev)(hl:e.past.length<=140737488351232):Cl aj 69 [.t (c6 e)] [] (.t (.bool (ew e))) []:=by
 refine Cl.ap rfl Tryz.func69 rfl rfl rfl ?_;have y:=Qk hl
 cases hv:je e.past with
 |false=>
  rw[hv]at y;refine aq ?_
  all_goals(refine ba (.inr rfl) rfl ?_;simp[ew,oh,hv])
 |true=>
  rw[hv]at y
  cases D:dA e.r 0 ((e.past.length:Int) - 1)with
  |false=>
   have u:=mW e.r 0 ((e.past.length:Int) - 1);rw[D]at u;refine aq ?_
   all_goals(refine ba (.inr rfl) rfl ?_;simp[ew,oh,hv,D])
  |true=>
   have u:=mW e.r 0 ((e.past.length:Int) - 1);rw[D]at u;have hr:0<=e.r/\e.r <e.past.length:=by simp[dA]at D;omega
   obtain⟨Z,h1⟩:=hr;obtain⟨x,hx⟩:=am (xs:=e.past) (k:=e.r.toNat) (by omega);have hc:=bg hx;have hd:=fL hx;have V:=D8 hv hx
   repeat'(first
|((with_reducible apply aa.bi)<;>intro z)
|((with_reducible apply aa.fz)<;>intro z)
|((with_reducible apply aa.ic (b:=dA _ _ _))<;>intro z)
|(refine aw ?_)
|((with_reducible apply aa.av);(case hW=>exact rfl);(case hx=>first
|(exact ai u)
|(exact ai (mW _ _ _))
|exact ae))
|((with_reducible apply aa.u0);(case hx=>first
|(exact ai y)
|(exact zr (Jy e))
|exact ae))
|fail)
   all_goals first
    |(refine ba (.inr rfl) rfl ?_;rw[ew,oh,hd];simp[*];first|done|omega)
    |skip
   have G:oh e=true:=by rw[oh,hd];simp[*];omega
   by_cases I:e.k=0
   ·
    repeat'(first
|((with_reducible apply aa.jR (b:=sd _))<;>intro z)
|((with_reducible apply aa.ic (b:=lu _ _))<;>intro z)
|(refine aw ?_)
|((with_reducible apply aa.av);(case hW=>exact rfl);(case hx=>first
|((with_reducible apply af.qy (parts:=#[]) (cs:=[.t (.int .i64 0),.t (.int .i64 0),.t (.int .i64 0),.nil,.t (.int .i64 0),.t (.int .i64 0),.t (.int .i64 0),.t (.int .i64 0),.t (.int .i64 0),.t (.int .i64 0),.t (.int .i64 0),.t (.int .i64 0),.t (.int .i64 0)]) (v:=.agg [.t (.int .i64 0),.t (.int .i64 0),.t (.int .i64 0),.nil,.t (.int .i64 0),.t (.int .i64 0),.t (.int .i64 0),.t (.int .i64 0),.t (.int .i64 0),.t (.int .i64 0),.t (.int .i64 0),.t (.int .i64 0),.t (.int .i64 0)]));(case ho=>kernel_rfl);(case h=>kernel_rfl);(case hv=>kernel_rfl))
|((with_reducible apply af.so);(case hcal|hav|hx|hh|hm=>exact rfl);(case hcl=>exact xX ⟨0,0,0,[],0,0,e.gk,e.gi,e.ge,e.ga,e.to,0,0⟩ nk (by simp) (by simp[nk]));(case hr=>exact rfl))
|exact ae))
|((with_reducible apply aa.u0);(case hx=>first
|((with_reducible apply af.oC);(case hm|hk|ho=>exact rfl);(case hf=>exact Jm I);(case hz=>exact rfl))
|((with_reducible apply af.qy (cs:=[.t (.int .i64 0),.t (.int .i64 0),.t (.int .i64 0),.nil,.t (.int .i64 0),.t (.int .i64 e.a),.t (.int .i64 e.gk),.t (.int .i64 e.gi),.t (.int .i64 e.ge),.t (.int .i64 e.ga),.t (.int .i64 e.to),.t (.int .i64 e.pl),.t (.int .i64 e.se)]) (v:=.agg [.t (.int .i64 0),.t (.int .i64 0),.t (.int .i64 0),.nil,.t (.int .i64 0),.t (.int .i64 e.a),.t (.int .i64 e.gk),.t (.int .i64 e.gi),.t (.int .i64 e.ge),.t (.int .i64 e.ga),.t (.int .i64 e.to),.t (.int .i64 e.pl),.t (.int .i64 e.se)]));(case ho=>kernel_rfl);(case h=>kernel_rfl);(case hv=>kernel_rfl))
|(exact zt [1] (Js e _ _ _ _ _ _ _ _))
|exact ae))
|fail)
    all_goals(refine ba (.inr rfl) rfl ?_;clear y u;(try simp only[yb,yc,yd]at*);rw[ew,G];simp only[*];simp)
   by_cases J:e.k=1
   ·
    repeat'(first
|((with_reducible apply aa.jR (b:=qT _))<;>intro z)
|((with_reducible apply aa.ic (b:=lu _ _))<;>intro z)
|(refine aw ?_)
|((with_reducible apply aa.av);(case hW=>exact rfl);(case hx=>first
|((with_reducible apply af.qy (parts:=#[]) (cs:=[.t (.int .i64 0),.t (.int .i64 0),.t (.int .i64 0),.nil,.t (.int .i64 0),.t (.int .i64 0),.t (.int .i64 0),.t (.int .i64 0),.t (.int .i64 0),.t (.int .i64 0),.t (.int .i64 0),.t (.int .i64 0),.t (.int .i64 0)]) (v:=.agg [.t (.int .i64 0),.t (.int .i64 0),.t (.int .i64 0),.nil,.t (.int .i64 0),.t (.int .i64 0),.t (.int .i64 0),.t (.int .i64 0),.t (.int .i64 0),.t (.int .i64 0),.t (.int .i64 0),.t (.int .i64 0),.t (.int .i64 0)]));(case ho=>kernel_rfl);(case h=>kernel_rfl);(case hv=>kernel_rfl))
|((with_reducible apply af.so);(case hcal|hav|hx|hh|hm=>exact rfl);(case hcl=>exact xX ⟨0,0,0,[],0,e.a,0,0,0,0,0,e.pl,e.se⟩ nk (by simp) (by simp[nk]));(case hr=>exact rfl))
|exact ae))
|((with_reducible apply aa.u0);(case hx=>first
|((with_reducible apply af.oC);(case hm|hk|ho=>exact rfl);(case hf=>exact Jn J);(case hz=>exact rfl))
|((with_reducible apply af.qy (cs:=[.t (.int .i64 0),.t (.int .i64 0),.t (.int .i64 0),.nil,.t (.int .i64 0),.t (.int .i64 e.a),.t (.int .i64 e.gk),.t (.int .i64 e.gi),.t (.int .i64 e.ge),.t (.int .i64 e.ga),.t (.int .i64 e.to),.t (.int .i64 e.pl),.t (.int .i64 e.se)]) (v:=.agg [.t (.int .i64 0),.t (.int .i64 0),.t (.int .i64 0),.nil,.t (.int .i64 0),.t (.int .i64 e.a),.t (.int .i64 e.gk),.t (.int .i64 e.gi),.t (.int .i64 e.ge),.t (.int .i64 e.ga),.t (.int .i64 e.to),.t (.int .i64 e.pl),.t (.int .i64 e.se)]));(case ho=>kernel_rfl);(case h=>kernel_rfl);(case hv=>kernel_rfl))
|(exact zt [1] (Jt e _ _ _ _ _ _ _ _ hl))
|exact ae))
|fail)
    all_goals(refine ba (.inr rfl) rfl ?_;clear y u;(try simp only[yb,yc,yd]at*);rw[ew,G];simp only[*];simp)
   by_cases U:e.k=2
   ·
    repeat'(first
|((with_reducible apply aa.jR (b:=vR _))<;>intro z)
|((with_reducible apply aa.ic (b:=lu _ _))<;>intro z)
|(refine aw ?_)
|((with_reducible apply aa.av);(case hW=>exact rfl);(case hx=>first
|((with_reducible apply af.qy (parts:=#[]) (cs:=[.t (.int .i64 0),.t (.int .i64 0),.t (.int .i64 0),.nil,.t (.int .i64 0),.t (.int .i64 0),.t (.int .i64 0),.t (.int .i64 0),.t (.int .i64 0),.t (.int .i64 0),.t (.int .i64 0),.t (.int .i64 0),.t (.int .i64 0)]) (v:=.agg [.t (.int .i64 0),.t (.int .i64 0),.t (.int .i64 0),.nil,.t (.int .i64 0),.t (.int .i64 0),.t (.int .i64 0),.t (.int .i64 0),.t (.int .i64 0),.t (.int .i64 0),.t (.int .i64 0),.t (.int .i64 0),.t (.int .i64 0)]));(case ho=>kernel_rfl);(case h=>kernel_rfl);(case hv=>kernel_rfl))
|((with_reducible apply af.so);(case hcal|hav|hx|hh|hm=>exact rfl);(case hcl=>exact xX ⟨0,0,0,[],0,e.a,e.gk,e.gi,e.ge,e.ga,e.to,0,0⟩ nk (by simp) (by simp[nk]));(case hr=>exact rfl))
|exact ae))
|((with_reducible apply aa.u0);(case hx=>first
|((with_reducible apply af.oC);(case hm|hk|ho=>exact rfl);(case hf=>exact Jo U);(case hz=>exact rfl))
|((with_reducible apply af.qy (cs:=[.t (.int .i64 0),.t (.int .i64 0),.t (.int .i64 0),.nil,.t (.int .i64 0),.t (.int .i64 e.a),.t (.int .i64 e.gk),.t (.int .i64 e.gi),.t (.int .i64 e.ge),.t (.int .i64 e.ga),.t (.int .i64 e.to),.t (.int .i64 e.pl),.t (.int .i64 e.se)]) (v:=.agg [.t (.int .i64 0),.t (.int .i64 0),.t (.int .i64 0),.nil,.t (.int .i64 0),.t (.int .i64 e.a),.t (.int .i64 e.gk),.t (.int .i64 e.gi),.t (.int .i64 e.ge),.t (.int .i64 e.ga),.t (.int .i64 e.to),.t (.int .i64 e.pl),.t (.int .i64 e.se)]));(case ho=>kernel_rfl);(case h=>kernel_rfl);(case hv=>kernel_rfl))
|(exact zt [1] (Ju e _ _ _ _ _ _ _ _))
|exact ae))
|fail)
    all_goals(refine ba (.inr rfl) rfl ?_;clear y u;(try simp only[yb,yc,yd]at*);rw[ew,G];simp only[*];simp)
   repeat'(first
|(refine aw ?_)
|((with_reducible apply aa.u0);(case hx=>first
|((with_reducible apply af.lk);(case hm|hk|ho=>exact rfl);(case hf=>exact Jp I J U);(case hz=>exact rfl))
|exact ae))
|fail)
   all_goals(refine ba (.inr rfl) rfl ?_;clear y u;simp_all[ew])
set_option maxHeartbeats 4000000
def D0(xs:List Int):QY 1 (aL xs)=true:=by simp[QY,aL,rv]
def SK(xs:List Int)(q:Nat)(n:Int):(aL xs).set q [.int .i64 n]=aL (xs.set q n):=by simp[aL,List.map_set]
def Tf{xs:List Int}(hl:xs.length<=1000000):Cl aj 94 [.t (aD xs)] [] (.ls 0) [.row false false 1 (aL xs)]:=by
 refine Cl.ext (xs:=[.arr (aL xs)]) (by kernel_rfl) rfl ?_
 have h2:Nat.ble ((aL xs).length*8) 140737488351232=true:=by
  rw[aW,Nat.ble_eq];omega
 have h3:=D0 xs
 have v:mi 1 8 (aL xs)=some (.ls 0,[.row false false 1 (aL xs)]):=by
  unfold mi;rw[h3,h2];rfl
 have u:sJ 94 [.arr (aL xs)]=none:=rfl;show qN 94 [.arr (aL xs)]=_
 unfold qN;rw[u];exact v
def Sw{xs:List Int}(_:xs≠[])(hl:xs.length<=1000000):Cl aj 94 [.t (aD xs)] [] (.ls 0) [.row false false 1 (aL xs)]:=Tf hl
def TN(x y:Int):Cl aj 80 [.t (.int .i64 x),.t (.int .i64 y)] [] (.t (.int .i64 (max x y))) []:=⟨3,by kernel_rfl⟩
def Q7(a b:List Int)(q:Nat):List Int:=(List.zipWith max a b).take q++a.drop q
def TC(a b:List Int):Q7 a b 0=a:=by simp[Q7]
def TD{a b:List Int}(h:a.length=b.length){q:Nat}(hq:a.length<=q):Q7 a b q=List.zipWith max a b:=by
 unfold Q7;rw[List.drop_of_length_le hq,List.take_of_length_le (by simp;omega)];simp
def TE{a b:List Int}(h:a.length=b.length){q:Nat}{n:Int}(hn:a[q]?=some n):(Q7 a b q)[q]?=some n:=by
 have u:=aC hn;unfold Q7;rw[List.getElem?_append_right (by simp;omega),List.getElem?_drop];have e:q+(q - (List.take q (List.zipWith max a b)).length)=q:=by simp;omega
 rw[e,hn]
def TF{a b:List Int}{q:Nat}{n m:Int}(hn:a[q]?=some n)(hm:b[q]?=some m):(Q7 a b q).set q (max n m)=Q7 a b (q+1):=by
 have z:=aC hn;have v:=aC hm;have y:(List.zipWith max a b)[q]?=some (max n m):=by rw[List.getElem?_zipWith,hn,hm]
 have u:(List.take q (List.zipWith max a b)).length=q:=by simp;omega
 unfold Q7;rw[List.set_append_right q _ (by omega),u,Nat.sub_self,drop_at hn,List.take_add_one,y];simp
def nV(l:List (List Int)):(bA l).length=l.length:=by simp[bA]
def TZ{a b:List Int}(v:QX [a,b]=true)(ha:a.length<=1000):Cl aj 77 [.t (.fn (.func 80) 0 []),.t (jp [a,b])] [] (.ls 0) [.row false false 1 (aL (List.zipWith max a b))]:=by
 have u:=RY v;have D:a≠[]:=by rintro rfl;simp[QX,Rk,je]at v
 have y:=RX (l:=[a,b]) (by simp) (by simp;omega);rw[v]at y;refine Cl.ap rfl Tryz.func77 rfl rfl rfl ?_;have I:(bA [a,b])[0]?=some [aD a]:=rfl
 repeat'(first
|(refine aw ?_)
|((with_reducible apply aa.u0);(case hx=>first
|((with_reducible apply af.SX);(case he|hx|hi=>exact rfl);(case hn=>simp[bA]);(case hz|hv=>exact rfl))
|(exact ai y)
|((with_reducible apply af.BG);(case hcal|hav|hx|hh|hm=>exact rfl);(case hcl=>exact Sw D (by omega));(case hr|hd=>exact rfl);(case hq=>kernel_rfl);(case hn=>exact Dy);(case hv=>(conv=>lhs;whnf);try exact rfl);(case he=>exact QS);(case hf=>exact leq))
|exact ae))
|fail)
 apply ac.cR
 case ho=>exact rfl
 case hp=>exact rfl
 case hl=>exact rfl
 case hs=>exact slt
 refine az.c8 (fun s:Nat×List Int=>[(20,.t (.int .i64 (s.1:Int)))]) (fun s=>[.row false false 1 (aL s.2)]) (fun s=>s.1<=1/\s.2=(if s.1=0 then a else List.zipWith max a b)) (fun s=>1 - s.1) (0,a) rfl rfl ⟨by simp,rfl⟩ (fun s hs=>?_);obtain⟨i,xs⟩:=s;obtain⟨h1,h2⟩:=hs;simp only at h1 h2;have G:[b].length=1:=rfl;rcases Nat.lt_or_ge i 1 with h3|h3
 ·
  obtain rfl:i=0:=by omega
  rw[if_pos rfl]at h2;subst h2;have J:(bA [b])[0]?=some [aD b]:=rfl;dsimp only;refine aq ?_;refine az.c8 (fun q:Nat=>[(26,.t (.int .i64 (q:Int)))]) (fun q=>[.row false false 1 (aL (Q7 xs b q))]) (fun q=>q<=b.length) (fun q=>b.length - q) 0 rfl (by rw[TC]) (by omega) (fun q hq=>?_);rcases Nat.lt_or_ge q b.length with z|z
  ·
   obtain⟨n,hn⟩:=am (xs:=xs) (k:=q) (by omega);obtain⟨m,hm⟩:=am z;have hd:=bg hm;have hk:=bg (TE u hn);have hl:=aC hk;have hs:(aL (Q7 xs b q)).set q [.int .i64 (max n m)]=aL (Q7 xs b (q+1)):=by rw[SK,TF hn hm]
   repeat'(first
|((with_reducible apply aa.aF);(case hp=>exact ak))
|(refine aw ?_)
|((with_reducible apply aa.u0);(case hx=>first
|((with_reducible apply af.Av);(case hs=>exact fun _=>rfl);(case ha|hy|ht|hone=>exact rfl);(case hn=>kernel_rfl);(case hb=>exact rfl);(case hk=>exact hk);(case hj=>exact rfl);(case hv=>exact hs);(case hf=>exact leq))
|(exact ai (TN n m))
|exact ae))
|fail)
   refine⟨q+1,rfl,rfl,by omega,by omega⟩
  ·
   have hj:=TD u (q:=q) (by omega);refine aq ?_;refine⟨(1,Q7 xs b q),rfl,rfl,⟨Nat.le_refl _,hj⟩,Nat.zero_lt_one⟩
 ·
  obtain rfl:i=1:=by omega
  rw[if_neg (by omega)]at h2;dsimp only;refine aq ?_;exact⟨.inr rfl,by rw[h2];rfl⟩
def Nv{a b:List Int}(ha:a.length<=140737488351232)(hb:b.length<=140737488351232):Cl aj 89 [.t (aD a),.t (aD b)] [] (.t (.bool (a==b))) []:=by
 refine Cl.ap rfl Tryz.func89 rfl rfl rfl ?_;by_cases v:a.length=b.length
 ·
  refine aq ?_;refine az.ind (fun q:Nat=>[(5,.t (.int .i64 (q:Int)))]) (fun q=>q<=a.length/\a.take q=b.take q) (fun q=>a.length - q) 0 rfl (by simp) (fun q z=>?_);obtain⟨h1,h2⟩:=z;rcases Nat.lt_or_ge q a.length with h3|h3
  ·
   obtain⟨n,y⟩:=am h3;obtain⟨m,u⟩:=am (xs:=b) (k:=q) (by omega);have D:=bg y;have hd:=bg u
   repeat'(first
|((with_reducible apply aa.aF);(case hp=>exact ak))
|((with_reducible apply aa.gA)<;>intro z)
|(refine aw ?_)
|((with_reducible apply aa.u0);(case hx=>exact ae))
|fail)
   all_goals first
    |(refine ba (.inr rfl) rfl ?_)
    |(refine⟨q+1,rfl,rfl,⟨by omega,?_⟩,by omega⟩)
   all_goals first
    |(rw[List.take_add_one,List.take_add_one,h2,y,u];simp_all;done)
    |(symm;rw[beq_eq_false_iff_ne];rintro rfl;rw[y]at u;cases u;omega)
  ·
   rw[List.take_of_length_le h3,List.take_of_length_le (by omega)]at h2
   repeat'(first
|((with_reducible apply aa.bk);(case hp=>exact ak))
|(refine aw ?_)
|((with_reducible apply aa.u0);(case hx=>exact ae))
|fail)
   all_goals(refine ba (.inr rfl) rfl ?_;rw[h2];simp)
 ·
  refine aq ?_
  all_goals(refine ba (.inr rfl) rfl ?_;symm;rw[beq_eq_false_iff_ne];rintro rfl;exact v rfl)
def TH{a b:List Int}(u:QX [a,b]=true)(ha:a.length<=1000):Cl aj 34 [.t (jp [a,b])] [] (.ls 0) [.row false false 1 (aL (List.zipWith max a b))]:=by
 refine Cl.ap rfl Tryz.func34 rfl rfl rfl ?_
 repeat'(first
|(refine aw ?_)
|((with_reducible apply aa.u0);(case hx=>first
|(exact iG (TZ u ha))
|exact ae))
|fail)
 exact⟨.inr rfl,rfl⟩
end Go.Proofs.YtcgdbhlnkificaaGreatDoor
