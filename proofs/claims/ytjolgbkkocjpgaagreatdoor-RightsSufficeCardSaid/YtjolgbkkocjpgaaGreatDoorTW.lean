/- Law 52: clocks compared. No condition. -/
import Derived.Test.YtjolgbkkocjpgaaGreatDoorTX
import Derived.Test.YtjolgbkkocjpgaaGreatDoorTS
set_option linter.all false
namespace Go.Proofs.YtjolgbkkocjpgaaGreatDoor
open Go.RowKit
set_option maxRecDepth 100000
def b8(e:Ev):List AV:=[.int .i64 e.r,.int .i64 e.n,.int .i64 e.t,ay e.past,.int .i64 e.k,.int .i64 e.a,.int .i64 e.gk,.int .i64 e.gi,.int .i64 e.ge,.int .i64 e.ga,.int .i64 e.to,.int .i64 e.pl,.int .i64 e.se]
def bN(e:Ev):AV:=.agg (b8 e)
def bj{α:Type}(p:α->Bool):List α->Int->Int
 |[],_=> -1
 |x::xs,i=>if p x then i else bj p xs (i+1)
def iK{α:Type}(p:α->Bool)(x:α)(xs:List α)(i:Int):bj p (x::xs) i=if p x then i else bj p xs (i+1):=rfl
def drop_at{α:Type}{xs:List α}{k:Nat}{x:α}(h:xs[k]?=some x):xs.drop k=x::xs.drop (k+1):=by
 obtain⟨h1,rfl⟩:=List.getElem?_eq_some_iff.1 h;exact List.drop_eq_getElem_cons h1
theorem ik{α:Type}(p:α->Bool):∀(xs:List α) (i:Int),0<=i->decide (0<=bj p xs i)=xs.any p
 |[],i,_=>rfl
 |x::xs,i,h=>by
  unfold bj
  cases u:p x with
  |true=>simp[u,h]
  |false=>simp only[List.any_cons,u,Bool.false_or];exact ik p xs (i+1) (by omega)
def Kc{xs v:List Int}(hl:xs.length<=140737488351232)(hm:v.length<=140737488351232):Cl ah 14 [.t (ay xs),.t (ay v)] [] (.t (.bool (xs==v))) []:=by
 refine Cl.aq rfl Tryz.func14 rfl rfl rfl ?_;by_cases y:xs.length=v.length
 ·
  refine ak ?_;refine ax.ind (fun q:Nat=>[(13,.t (.int .i64 (q:Int)))]) (fun q=>q<=xs.length/\xs.take q=v.take q) (fun q=>xs.length - q) 0 rfl (by simp) (fun q D=>?_);obtain⟨h1,h2⟩:=D;rcases Nat.lt_or_ge q xs.length with h3|h3
  ·
   obtain⟨n,z⟩:=aj h3;obtain⟨m,u⟩:=aj (xs:=v) (k:=q) (by omega);have G:=aW z;have hd:=aW u
   repeat'(first
|((with_reducible apply aa.aR);(case hp=>exact aA))
|((with_reducible apply aa.gm)<;>intro D)
|(refine ar ?_)
|((with_reducible apply aa.u0);(case hx=>exact af))
|fail)
   all_goals first
    |(refine a_ (.inr rfl) rfl ?_)
    |(refine⟨q+1,rfl,rfl,⟨by omega,?_⟩,by omega⟩)
   all_goals first
    |(rw[List.take_add_one,List.take_add_one,h2,z,u];simp_all;done)
    |(symm;rw[beq_eq_false_iff_ne];rintro rfl;rw[z]at u;cases u;omega)
  ·
   rw[List.take_of_length_le h3,List.take_of_length_le (by omega)]at h2
   repeat'(first
|((with_reducible apply aa.cQ);(case hp=>exact aA))
|(refine ar ?_)
|((with_reducible apply aa.u0);(case hx=>exact af))
|fail)
   all_goals(refine a_ (.inr rfl) rfl ?_;rw[h2];simp)
 ·
  refine ak ?_
  all_goals(refine a_ (.inr rfl) rfl ?_;symm;rw[beq_eq_false_iff_ne];rintro rfl;exact y rfl)
def Ni(a b c d:Int):gy ah.P 20 55 [.int .i64 a,.int .i64 b,.int .i64 c,.int .i64 d] [.int .i64 0,.int .i64 0,.int .i64 0,.int .i64 0]=some ((decide (a=0)&&(decide (b=0)&&(decide (c=0)&&true)))&&(decide (d=0)&&true)):=by kernel_rfl
def wB:ah.P.eqGuardType ah.P.depth 55=false:=by kernel_rfl
set_option maxHeartbeats 4000000
def KU(e:Ev):Cl ah 158 [.t (bN e)] [] (.lm 0) [.map false [.int .i64 0,.int .i64 1,.int .i64 2] [.fn (.func 181) 0 [.lp 1 0],.fn (.func 182) 0 [.lp 1 0],.fn (.func 183) 0 [.lp 1 0]],.box false 57 ((b8 e).map .t)]:=⟨3,by kernel_rfl⟩
def nt(n l h:Int):Cl ah 157 [.t (.int .i64 n),.t (.int .i64 l),.t (.int .i64 h)] [] (.t (.bool (cO n l h))) []:=Ip n l h
def q7(a gk gi ge ga to pl se:Int):List SV:=[.t (.int .i64 0),.t (.int .i64 0),.t (.int .i64 0),.nil,.t (.int .i64 0),.t (.int .i64 a),.t (.int .i64 gk),.t (.int .i64 gi),.t (.int .i64 ge),.t (.int .i64 ga),.t (.int .i64 to),.t (.int .i64 pl),.t (.int .i64 se)]
section
variable (e:Ev) (a gk gi ge ga to pl se:Int)
def KO:Cl ah 181 [.lp 0 0,.t (.tp (b8 e))] [.box false 57 (q7 a gk gi ge ga to pl se)] (.t (.bool (oc e))) [.box false 57 (q7 0 gk gi ge ga to 0 0)]:=by
 refine Cl.aq rfl Tryz.func181 rfl rfl rfl ?_
 repeat'(first
|((with_reducible apply aa.jX (b:=cO _ _ _))<;>intro u)
|((with_reducible apply aa.iu (b:=cO _ _ _))<;>intro u)
|(refine ar ?_)
|((with_reducible apply aa.aB);(case hW=>exact rfl);(case hx=>first
|(exact ap (nt _ _ _))
|exact af))
|((with_reducible apply aa.u0);(case hx=>first
|(exact ap (nt _ _ _))
|exact af))
|fail)
 all_goals(refine a_ (.inr rfl) rfl ?_;simp[oc, *])
def KQ:Cl ah 183 [.lp 0 0,.t (.tp (b8 e))] [.box false 57 (q7 a gk gi ge ga to pl se)] (.t (.bool (rS e))) [.box false 57 (q7 a gk gi ge ga to 0 0)]:=by
 refine Cl.aq rfl Tryz.func183 rfl rfl rfl ?_
 repeat'(first
|((with_reducible apply aa.jX (b:=cO _ _ _))<;>intro u)
|((with_reducible apply aa.iu (b:=cO _ _ _))<;>intro u)
|(refine ar ?_)
|((with_reducible apply aa.aB);(case hW=>exact rfl);(case hx=>first
|(exact ap (nt _ _ _))
|exact af))
|((with_reducible apply aa.u0);(case hx=>first
|(exact ap (nt _ _ _))
|exact af))
|fail)
 all_goals(refine a_ (.inr rfl) rfl ?_;simp[rS, *])
def KP(hl:e.past.length<=140737488351232):Cl ah 182 [.lp 0 0,.t (.tp (b8 e))] [.box false 57 (q7 a gk gi ge ga to pl se)] (.t (.bool (rv e))) [.box false 57 (q7 a 0 0 0 0 0 pl se)]:=by
 refine Cl.aq rfl Tryz.func182 rfl rfl rfl ?_
 repeat'(first
|((with_reducible apply aa.aX)<;>intro u)
|((with_reducible apply aa.jX (b:=cO _ _ _))<;>intro u)
|((with_reducible apply aa.fj)<;>intro u)
|((with_reducible apply aa.iu (b:=cO _ _ _))<;>intro u)
|(refine ar ?_)
|((with_reducible apply aa.aB);(case hW=>exact rfl);(case hx=>first
|(exact ap (nt _ _ _))
|exact af))
|((with_reducible apply aa.u0);(case hx=>first
|(exact ap (nt _ _ _))
|exact af))
|fail)
 all_goals(refine a_ (.inr rfl) rfl ?_;simp_all[rv])
end
def lE(e f:Ev):Bool:=decide (e.r=f.r)&&(decide (e.n=f.n)&&(decide (e.t=f.t)&&((e.past==f.past)&&(decide (e.k=f.k)&&(decide (e.a=f.a)&&((decide (e.gk=f.gk)&&(decide (e.gi=f.gi)&&(decide (e.ge=f.ge)&&decide (e.ga=f.ga))))&&(decide (e.to=f.to)&&(decide (e.pl=f.pl)&&decide (e.se=f.se)))))))))
def Ab(a b c d u v y z:Int):gy ah.P 20 55 [.int .i64 a,.int .i64 b,.int .i64 c,.int .i64 d] [.int .i64 u,.int .i64 v,.int .i64 y,.int .i64 z]=some ((decide (a=u)&&(decide (b=v)&&(decide (c=y)&&true)))&&(decide (d=z)&&true)):=by kernel_rfl
def za(e f:Ev)(he:e.past.length<=140737488351232)(hf:f.past.length<=140737488351232):Cl ah 159 [.t (bN e),.t (bN f)] [] (.t (.bool (lE e f))) []:=by
 refine Cl.aq rfl Tryz.func159 rfl rfl rfl ?_
 repeat'(first
|((with_reducible apply aa.aX)<;>intro u)
|((with_reducible apply aa.bi)<;>intro u)
|((with_reducible apply aa.iu (b:=_==_))<;>intro u)
|((with_reducible apply aa.iu (b:=_&&_))<;>intro u)
|(refine ar ?_)
|((with_reducible apply aa.aB);(case hW=>exact rfl);(case hx=>first
|((with_reducible apply ac.eqs);(case hx|hy=>exact rfl);(case hg=>exact wB);(case ht=>exact rfl);(case hr=>exact Ab _ _ _ _ _ _ _ _))
|(exact ap (Kc he hf))
|exact af))
|((with_reducible apply aa.u0);(case hx=>exact af))
|fail)
 all_goals(refine a_ (.inr rfl) rfl ?_;simp_all[lE])
set_option maxRecDepth 100000
set_option maxHeartbeats 2000000
abbrev nB:Ev:=⟨0,0,0,[],0,0,0,0,0,0,0,0,0⟩
def zf(e:Ev):lE ⟨0,0,0,[],0,0,e.gk,e.gi,e.ge,e.ga,e.to,0,0⟩ nB=oI e:=by
 rw[Bool.eq_iff_iff];simp[lE,oI,and_assoc]
def zg(e:Ev):lE ⟨0,0,0,[],0,e.a,0,0,0,0,0,e.pl,e.se⟩ nB=(decide (e.a=0)&&(decide (e.pl=0)&&decide (e.se=0))):=by
 rw[Bool.eq_iff_iff];simp[lE]
def zh(e:Ev):lE ⟨0,0,0,[],0,e.a,e.gk,e.gi,e.ge,e.ga,e.to,0,0⟩ nB=(decide (e.a=0)&&oI e):=by
 rw[Bool.eq_iff_iff];simp[lE,oI,and_assoc]
def tn(k:Int):Option (Option Nat):=eB (.int .i64) (.int .i64 k) [.int .i64 0,.int .i64 1,.int .i64 2] 0
def KH{k:Int}(h:k=0):tn k=some (some 0):=by subst h;rfl
def KI{k:Int}(h:k=1):tn k=some (some 1):=by subst h;rfl
def KJ{k:Int}(h:k=2):tn k=some (some 2):=by subst h;rfl
def KK{k:Int}(h0:k≠0)(h1:k≠1)(h2:k≠2):tn k=some none:=by simp[tn,eB,jF,h0,h1,h2]
def KT(e:Ev)(hl:e.past.length<=140737488351232):Cl ah 113 [.t (bN e)] [] (.t (.bool (cW e))) []:=by
 refine Cl.aq rfl Tryz.func113 rfl rfl rfl ?_;have y:=RE hl
 cases hv:gK e.past with
 |false=>
  rw[hv]at y;refine ak ?_
  all_goals(refine a_ (.inr rfl) rfl ?_;simp[cW,jh,hv])
 |true=>
  rw[hv]at y
  cases D:cO e.r 0 ((e.past.length:Int) - 1)with
  |false=>
   have u:=nt e.r 0 ((e.past.length:Int) - 1);rw[D]at u;refine ak ?_
   all_goals(refine a_ (.inr rfl) rfl ?_;simp[cW,jh,hv,D])
  |true=>
   have u:=nt e.r 0 ((e.past.length:Int) - 1);rw[D]at u;have hr:0<=e.r/\e.r <e.past.length:=by simp[cO]at D;omega
   obtain⟨Z,h1⟩:=hr;obtain⟨x,hx⟩:=aj (xs:=e.past) (k:=e.r.toNat) (by omega);have hc:=aW hx;have hd:=fb hx;have V:=Ak hv hx
   repeat'(first
|((with_reducible apply aa.bi)<;>intro z)
|((with_reducible apply aa.fj)<;>intro z)
|((with_reducible apply aa.iu (b:=cO _ _ _))<;>intro z)
|(refine ar ?_)
|((with_reducible apply aa.aB);(case hW=>exact rfl);(case hx=>first
|(exact ap u)
|(exact ap (nt _ _ _))
|exact af))
|((with_reducible apply aa.u0);(case hx=>first
|(exact ap y)
|(exact Ap (KU e))
|exact af))
|fail)
   all_goals first
    |(refine a_ (.inr rfl) rfl ?_;rw[cW,jh,hd];simp[*];first|done|omega)
    |skip
   have G:jh e=true:=by rw[jh,hd];simp[*];omega
   by_cases I:e.k=0
   ·
    repeat'(first
|((with_reducible apply aa.jX (b:=oc _))<;>intro z)
|((with_reducible apply aa.iu (b:=lE _ _))<;>intro z)
|(refine ar ?_)
|((with_reducible apply aa.aB);(case hW=>exact rfl);(case hx=>first
|((with_reducible apply ac.qZ (parts:=#[]) (cs:=[.t (.int .i64 0),.t (.int .i64 0),.t (.int .i64 0),.nil,.t (.int .i64 0),.t (.int .i64 0),.t (.int .i64 0),.t (.int .i64 0),.t (.int .i64 0),.t (.int .i64 0),.t (.int .i64 0),.t (.int .i64 0),.t (.int .i64 0)]) (v:=.agg [.t (.int .i64 0),.t (.int .i64 0),.t (.int .i64 0),.nil,.t (.int .i64 0),.t (.int .i64 0),.t (.int .i64 0),.t (.int .i64 0),.t (.int .i64 0),.t (.int .i64 0),.t (.int .i64 0),.t (.int .i64 0),.t (.int .i64 0)]));(case ho=>kernel_rfl);(case h=>kernel_rfl);(case hv=>kernel_rfl))
|((with_reducible apply ac.sS);(case hcal|hav|hx|hh|hm=>exact rfl);(case hcl=>exact za ⟨0,0,0,[],0,0,e.gk,e.gi,e.ge,e.ga,e.to,0,0⟩ nB (by simp) (by simp[nB]));(case hr=>exact rfl))
|exact af))
|((with_reducible apply aa.u0);(case hx=>first
|((with_reducible apply ac.oQ);(case hm|hk|ho=>exact rfl);(case hf=>exact KH I);(case hz=>exact rfl))
|((with_reducible apply ac.qZ (cs:=[.t (.int .i64 0),.t (.int .i64 0),.t (.int .i64 0),.nil,.t (.int .i64 0),.t (.int .i64 e.a),.t (.int .i64 e.gk),.t (.int .i64 e.gi),.t (.int .i64 e.ge),.t (.int .i64 e.ga),.t (.int .i64 e.to),.t (.int .i64 e.pl),.t (.int .i64 e.se)]) (v:=.agg [.t (.int .i64 0),.t (.int .i64 0),.t (.int .i64 0),.nil,.t (.int .i64 0),.t (.int .i64 e.a),.t (.int .i64 e.gk),.t (.int .i64 e.gi),.t (.int .i64 e.ge),.t (.int .i64 e.ga),.t (.int .i64 e.to),.t (.int .i64 e.pl),.t (.int .i64 e.se)]));(case ho=>kernel_rfl);(case h=>kernel_rfl);(case hv=>kernel_rfl))
|(exact Aq [1] (KO e _ _ _ _ _ _ _ _))
|exact af))
|fail)
    all_goals(refine a_ (.inr rfl) rfl ?_;clear y u;(try simp only[zf,zg,zh]at*);rw[cW,G];simp only[*];simp)
   by_cases J:e.k=1
   ·
    repeat'(first
|((with_reducible apply aa.jX (b:=rv _))<;>intro z)
|((with_reducible apply aa.iu (b:=lE _ _))<;>intro z)
|(refine ar ?_)
|((with_reducible apply aa.aB);(case hW=>exact rfl);(case hx=>first
|((with_reducible apply ac.qZ (parts:=#[]) (cs:=[.t (.int .i64 0),.t (.int .i64 0),.t (.int .i64 0),.nil,.t (.int .i64 0),.t (.int .i64 0),.t (.int .i64 0),.t (.int .i64 0),.t (.int .i64 0),.t (.int .i64 0),.t (.int .i64 0),.t (.int .i64 0),.t (.int .i64 0)]) (v:=.agg [.t (.int .i64 0),.t (.int .i64 0),.t (.int .i64 0),.nil,.t (.int .i64 0),.t (.int .i64 0),.t (.int .i64 0),.t (.int .i64 0),.t (.int .i64 0),.t (.int .i64 0),.t (.int .i64 0),.t (.int .i64 0),.t (.int .i64 0)]));(case ho=>kernel_rfl);(case h=>kernel_rfl);(case hv=>kernel_rfl))
|((with_reducible apply ac.sS);(case hcal|hav|hx|hh|hm=>exact rfl);(case hcl=>exact za ⟨0,0,0,[],0,e.a,0,0,0,0,0,e.pl,e.se⟩ nB (by simp) (by simp[nB]));(case hr=>exact rfl))
|exact af))
|((with_reducible apply aa.u0);(case hx=>first
|((with_reducible apply ac.oQ);(case hm|hk|ho=>exact rfl);(case hf=>exact KI J);(case hz=>exact rfl))
|((with_reducible apply ac.qZ (cs:=[.t (.int .i64 0),.t (.int .i64 0),.t (.int .i64 0),.nil,.t (.int .i64 0),.t (.int .i64 e.a),.t (.int .i64 e.gk),.t (.int .i64 e.gi),.t (.int .i64 e.ge),.t (.int .i64 e.ga),.t (.int .i64 e.to),.t (.int .i64 e.pl),.t (.int .i64 e.se)]) (v:=.agg [.t (.int .i64 0),.t (.int .i64 0),.t (.int .i64 0),.nil,.t (.int .i64 0),.t (.int .i64 e.a),.t (.int .i64 e.gk),.t (.int .i64 e.gi),.t (.int .i64 e.ge),.t (.int .i64 e.ga),.t (.int .i64 e.to),.t (.int .i64 e.pl),.t (.int .i64 e.se)]));(case ho=>kernel_rfl);(case h=>kernel_rfl);(case hv=>kernel_rfl))
|(exact Aq [1] (KP e _ _ _ _ _ _ _ _ hl))
|exact af))
|fail)
    all_goals(refine a_ (.inr rfl) rfl ?_;clear y u;(try simp only[zf,zg,zh]at*);rw[cW,G];simp only[*];simp)
   by_cases U:e.k=2
   ·
    repeat'(first
|((with_reducible apply aa.jX (b:=rS _))<;>intro z)
|((with_reducible apply aa.iu (b:=lE _ _))<;>intro z)
|(refine ar ?_)
|((with_reducible apply aa.aB);(case hW=>exact rfl);(case hx=>first
|((with_reducible apply ac.qZ (parts:=#[]) (cs:=[.t (.int .i64 0),.t (.int .i64 0),.t (.int .i64 0),.nil,.t (.int .i64 0),.t (.int .i64 0),.t (.int .i64 0),.t (.int .i64 0),.t (.int .i64 0),.t (.int .i64 0),.t (.int .i64 0),.t (.int .i64 0),.t (.int .i64 0)]) (v:=.agg [.t (.int .i64 0),.t (.int .i64 0),.t (.int .i64 0),.nil,.t (.int .i64 0),.t (.int .i64 0),.t (.int .i64 0),.t (.int .i64 0),.t (.int .i64 0),.t (.int .i64 0),.t (.int .i64 0),.t (.int .i64 0),.t (.int .i64 0)]));(case ho=>kernel_rfl);(case h=>kernel_rfl);(case hv=>kernel_rfl))
|((with_reducible apply ac.sS);(case hcal|hav|hx|hh|hm=>exact rfl);(case hcl=>exact za ⟨0,0,0,[],0,e.a,e.gk,e.gi,e.ge,e.ga,e.to,0,0⟩ nB (by simp) (by simp[nB]));(case hr=>exact rfl))
|exact af))
|((with_reducible apply aa.u0);(case hx=>first
|((with_reducible apply ac.oQ);(case hm|hk|ho=>exact rfl);(case hf=>exact KJ U);(case hz=>exact rfl))
|((with_reducible apply ac.qZ (cs:=[.t (.int .i64 0),.t (.int .i64 0),.t (.int .i64 0),.nil,.t (.int .i64 0),.t (.int .i64 e.a),.t (.int .i64 e.gk),.t (.int .i64 e.gi),.t (.int .i64 e.ge),.t (.int .i64 e.ga),.t (.int .i64 e.to),.t (.int .i64 e.pl),.t (.int .i64 e.se)]) (v:=.agg [.t (.int .i64 0),.t (.int .i64 0),.t (.int .i64 0),.nil,.t (.int .i64 0),.t (.int .i64 e.a),.t (.int .i64 e.gk),.t (.int .i64 e.gi),.t (.int .i64 e.ge),.t (.int .i64 e.ga),.t (.int .i64 e.to),.t (.int .i64 e.pl),.t (.int .i64 e.se)]));(case ho=>kernel_rfl);(case h=>kernel_rfl);(case hv=>kernel_rfl))
|(exact Aq [1] (KQ e _ _ _ _ _ _ _ _))
|exact af))
|fail)
    all_goals(refine a_ (.inr rfl) rfl ?_;clear y u;(try simp only[zf,zg,zh]at*);rw[cW,G];simp only[*];simp)
   repeat'(first
|(refine ar ?_)
|((with_reducible apply aa.u0);(case hx=>first
|((with_reducible apply ac.lk);(case hm|hk|ho=>exact rfl);(case hf=>exact KK I J U);(case hz=>exact rfl))
|exact af))
|fail)
   all_goals(refine a_ (.inr rfl) rfl ?_;clear y u;simp_all[cW])
set_option maxHeartbeats 4000000
def PH{xs:List Int}(hl:xs.length<=140737488351232):Cl ah 115 [.t (ay xs)] [] (.t (.bool (gK xs))) []:=by
 refine Cl.aq rfl Tryz.func115 rfl rfl rfl ?_;refine ak ?_;refine ax.ind (fun q:Nat=>[(3,.t (.int .i64 (q:Int)))]) (fun q=>q<=xs.length/\(xs.take q).all nN=true) (fun q=>xs.length - q) 0 rfl (by simp) (fun q u=>?_);obtain⟨h1,h2⟩:=u;rcases Nat.lt_or_ge q xs.length with h3|h3
 ·
  obtain⟨n,v⟩:=aj h3;have y:=aW v
  repeat'(first
|((with_reducible apply aa.aR);(case hp=>exact aA))
|((with_reducible apply aa.aX)<;>intro u)
|((with_reducible apply aa.bi)<;>intro u)
|(refine ar ?_)
|((with_reducible apply aa.aB);(case hW=>exact rfl);(case hx=>exact af))
|((with_reducible apply aa.u0);(case hx=>exact af))
|fail)
  all_goals first
   |(refine a_ (.inr rfl) rfl ?_)
   |(refine⟨q+1,rfl,rfl,⟨by omega,qW h2 v ?_⟩,by omega⟩)
  all_goals first
   |(rw[gK,BW v (by simp[nN];omega)];rfl)
   |(simp[nN];omega)
 ·
  have h4:=sO h2 h3
  repeat'(first
|((with_reducible apply aa.cQ);(case hp=>exact aA))
|((with_reducible apply aa.aX)<;>intro u)
|((with_reducible apply aa.bi)<;>intro u)
|(refine ar ?_)
|((with_reducible apply aa.aB);(case hW=>exact rfl);(case hx=>exact af))
|((with_reducible apply aa.u0);(case hx=>exact af))
|fail)
  all_goals(refine a_ (.inr rfl) rfl ?_;rw[gK,h4];simp;omega)
def OO(e:Ev)(hl:e.past.length<=140737488351232):Cl ah 80 [.t (bN e)] [] (.t (.bool (cW e))) []:=by
 refine Cl.aq rfl Tryz.func80 rfl rfl rfl ?_;have u:=PH hl
 cases hv:gK e.past with
 |false=>
  rw[hv]at u
  repeat'(first
|(refine ar ?_)
|((with_reducible apply aa.u0);(case hx=>first
|(exact ap u)
|exact af))
|fail)
  all_goals(refine a_ (.inr rfl) rfl ?_;simp[cW,jh,hv])
 |true=>
  rw[hv]at u;by_cases hr:0<=e.r/\e.r <e.past.length
  ·
   obtain⟨G,h1⟩:=hr;obtain⟨x,hx⟩:=aj (xs:=e.past) (k:=e.r.toNat) (by omega);have hc:=aW hx;have hd:=fb hx;have D:=Ak hv hx
   repeat'(first
|(with_reducible apply am.stop (id:=3))
|(with_reducible apply am.seq)
|((with_reducible apply am.text);(try case hm=>exact rfl))
|((with_reducible apply am.drawn);(case hm=>exact rfl))
|(with_reducible first|apply am.skip|apply am.ret|apply dx|apply pg)
|((with_reducible apply am.ew);(case hc=>exact rfl))
|((with_reducible apply am.jB);(case hc=>exact rfl))
|((with_reducible apply aa.lZ);(case hp=>exact aA))
|((with_reducible apply aa.bi)<;>intro v)
|((with_reducible apply aa.fj)<;>intro v)
|(with_reducible apply aa.cI)
|((with_reducible apply aa.gf);(case hW=>exact rfl))
|((with_reducible apply aa.aB);(case hW=>exact rfl);(case hx=>exact af))
|((with_reducible apply aa.u0);(case hx=>first
|(exact ap u)
|exact af))
|fail)
   all_goals first
    |(refine a_ (.inr rfl) rfl ?_;rw[cW,jh,hd];simp[*,cO];first|done|omega)
    |skip
   refine uX.go ?_;have y:jh e=true:=by rw[jh,hd];simp[*,cO];omega
   repeat'(first
|(with_reducible first|apply am.seq|apply am.block)
|((with_reducible apply am.text);(try case hm=>exact rfl))
|(with_reducible first|apply am.skip|apply am.ret|apply dx|apply pg|apply q6|apply pJ|apply aa.cI)
|((with_reducible apply aa.gd);(case hW=>first|exact Du rfl rfl|exact Dt rfl rfl|((with_reducible apply Dr);(case h=>exact rfl);(case he=>repeat(first|with_reducible exact vA _ _ _|(with_reducible refine vC rfl ?_)|with_reducible refine vB ?_)))|((with_reducible apply Dq);(case h=>exact rfl);(case he=>repeat(first|with_reducible exact vA _ _ _|(with_reducible refine vC rfl ?_)|with_reducible refine vB ?_))));(case hx=>(intro z;first
|(
 rw[z]
 first
|((with_reducible apply ac.mv);(conv=>lhs;whnf);try exact rfl)
|((with_reducible apply ac.len);(case ha|hy|ht|hs=>exact rfl);(case hn=>first|exact List.length_map _|exact rfl))
|((with_reducible apply ac.rj);(case hy|ho=>exact rfl);(case hn=>(conv=>lhs;whnf);try exact rfl))
|((with_reducible apply ac.and);(case hc|hx|hy=>exact rfl))
|exact ac.r fun _=>rfl)
|(((with_reducible apply ac.rj);(case hy|ho=>exact rfl);(case hn=>(conv=>lhs;whnf);try exact rfl))))))
|((with_reducible apply aa.u0);(case hx=>first
|((with_reducible apply ac.mv);(conv=>lhs;whnf);try exact rfl)
|((with_reducible apply ac.asg);(conv=>lhs;whnf);try exact rfl)
|((with_reducible apply ac.qv);(case hx|hy=>exact rfl);(case hg=>exact wB);(case ht=>exact rfl);(case hr=>exact Ni _ _ _ _))
|((with_reducible apply ac.rj);(case hy|ho=>exact rfl);(case hn=>(conv=>lhs;whnf);try exact rfl))
|((with_reducible apply ac.al);(case hs=>exact fun _=>rfl);(case hz=>exact rfl);(case hc=>exact leq);(case hn=>exact zS);(case hf=>exact leq))
|((with_reducible apply ac.G9);(case hs=>exact fun _=>rfl);(case ha|hy=>exact rfl);(case ht=>first|(with_reducible exact sz0)|(with_reducible exact eV)|(with_reducible exact nV)|(with_reducible exact sz3)|(with_reducible exact sz4)|(with_reducible exact sz5)|(with_reducible exact sz6)|(with_reducible exact sz7)|(with_reducible exact sz8)|(with_reducible exact sz9)|exact rfl);(case ho=>kernel_rfl);(case hl=>kernel_rfl);(case hb=>exact rfl);(case hc=>kernel_rfl);(case hf=>exact leq))
|((with_reducible apply ac.zO);(case hy=>exact rfl);(case ht=>first|(with_reducible exact sz0)|(with_reducible exact eV)|(with_reducible exact nV)|(with_reducible exact sz3)|(with_reducible exact sz4)|(with_reducible exact sz5)|(with_reducible exact sz6)|(with_reducible exact sz7)|(with_reducible exact sz8)|(with_reducible exact sz9));(case hb=>exact rfl);(case hl=>kernel_rfl);(case hv=>exact rfl);(case hx=>(repeat'(first|exact j8.nil|(apply j8.cons)))))
|((with_reducible apply ac.or);(case hc|hx|hy=>exact rfl))
|((with_reducible apply ac.and);(case hc|hx|hy=>exact rfl))
|exact ac.r fun _=>rfl))
|(((with_reducible apply am.Jm);(case hc=>exact rfl))<;>intro v)
|fail)
   all_goals(refine a_ (.inr rfl) rfl ?_;clear u hc;rw[cW,y,Bool.eq_iff_iff];clear y hv hx hd)
   all_goals(simp only[Bool.or_eq_true,Bool.and_eq_true,Bool.not_eq_true',Bool.or_eq_false_iff,Bool.and_eq_false_iff,decide_eq_true_eq,decide_eq_false_iff_not,Bool.not_eq_false']at*)
   all_goals first
    |(simp[*,oc,rS,oI,cO];done)
    |(simp[*,oc,rS,oI,cO];omega)
    |(simp[*,rv,cO];by_cases hg:e.gk=1 <;>simp[hg]<;>omega)
    |skip
  ·
   repeat'(first
|((with_reducible apply aa.ee);(case hp=>exact aA))
|((with_reducible apply aa.bi)<;>intro v)
|(refine ar ?_)
|((with_reducible apply aa.aB);(case hW=>exact rfl);(case hx=>exact af))
|((with_reducible apply aa.u0);(case hx=>first
|(exact ap u)
|exact af))
|fail)
   all_goals first
    |(refine a_ (.inr rfl) rfl ?_;rw[cW,jh];simp[*,cO];first|done|omega)
    |skip
def Nl(xs:List Int):eP 1 (aE xs)=true:=by simp[eP,aE,rV]
def Jf{xs:List Int}(hl:xs.length<=1000000):Cl ah 77 [.t (ay xs)] [] (.ls 0) [.row false false 1 (aE xs)]:=by
 refine Cl.ext (xs:=[.arr (aE xs)]) (by kernel_rfl) rfl ?_
 have h2:Nat.ble ((aE xs).length*8) 140737488351232=true:=by
  rw[aO,Nat.ble_eq];omega
 have h3:=Nl xs
 have v:kq 1 8 (aE xs)=some (.ls 0,[.row false false 1 (aE xs)]):=by
  unfold kq;rw[h3,h2];rfl
 have u:pY 77 [.arr (aE xs)]=none:=rfl;show mG 77 [.arr (aE xs)]=_
 unfold mG;rw[u];exact v
def ic(l:List (List Int)):(aF l).length=l.length:=by simp[aF]
def OU{a b:List Int}(ha:a.length<=140737488351232)(hb:b.length<=140737488351232):Cl ah 52 [.t (ay a),.t (ay b)] [] (.t (.bool (a==b))) []:=by
 refine Cl.aq rfl Tryz.func52 rfl rfl rfl ?_;by_cases v:a.length=b.length
 ·
  refine ak ?_;refine ax.ind (fun q:Nat=>[(5,.t (.int .i64 (q:Int)))]) (fun q=>q<=a.length/\a.take q=b.take q) (fun q=>a.length - q) 0 rfl (by simp) (fun q z=>?_);obtain⟨h1,h2⟩:=z;rcases Nat.lt_or_ge q a.length with h3|h3
  ·
   obtain⟨n,y⟩:=aj h3;obtain⟨m,u⟩:=aj (xs:=b) (k:=q) (by omega);have D:=aW y;have hd:=aW u
   repeat'(first
|((with_reducible apply aa.aR);(case hp=>exact aA))
|((with_reducible apply aa.gm)<;>intro z)
|(refine ar ?_)
|((with_reducible apply aa.u0);(case hx=>exact af))
|fail)
   all_goals first
    |(refine a_ (.inr rfl) rfl ?_)
    |(refine⟨q+1,rfl,rfl,⟨by omega,?_⟩,by omega⟩)
   all_goals first
    |(rw[List.take_add_one,List.take_add_one,h2,y,u];simp_all;done)
    |(symm;rw[beq_eq_false_iff_ne];rintro rfl;rw[y]at u;cases u;omega)
  ·
   rw[List.take_of_length_le h3,List.take_of_length_le (by omega)]at h2
   repeat'(first
|((with_reducible apply aa.cQ);(case hp=>exact aA))
|(refine ar ?_)
|((with_reducible apply aa.u0);(case hx=>exact af))
|fail)
   all_goals(refine a_ (.inr rfl) rfl ?_;rw[h2];simp)
 ·
  refine ak ?_
  all_goals(refine a_ (.inr rfl) rfl ?_;symm;rw[beq_eq_false_iff_ne];rintro rfl;exact v rfl)
end Go.Proofs.YtjolgbkkocjpgaaGreatDoor
