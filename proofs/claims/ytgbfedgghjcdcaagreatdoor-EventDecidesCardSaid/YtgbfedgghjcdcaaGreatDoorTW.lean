/- Law 52: clocks compared. No condition. -/
import Derived.Test.YtgbfedgghjcdcaaGreatDoorWA
import Derived.Test.YtgbfedgghjcdcaaGreatDoorTS
set_option linter.all false
namespace Go.Proofs.YtgbfedgghjcdcaaGreatDoor
open Go.RowKit
set_option maxRecDepth 100000
def Bf{l:List (List Int)}{u:List Int}(h0:l[0]?=some u):(l.headD []).length=u.length:=by rw[D8 h0]
def Bg{l:List (List Int)}(hl:l.length<=140737488351232)(hc:∀c∈l,c.length<=140737488351232):Cl ap 138 [.t (Cq l)] [] (.t (.bool (ia l))) []:=by
 refine Cl.aE rfl Tryz.func138 rfl rfl rfl ?_
 repeat'(first
|(with_reducible first|apply aa.seq|apply aa.block)
|((with_reducible apply aa.text);(try case hm=>exact rfl))
|(with_reducible apply ab.af)
|((with_reducible apply ab.u0);(case hx=>exact ac))
|fail)
 apply aa.aM
 case ho=>exact rfl
 case hp=>exact rfl
 case hl=>exact rfl
 case hs=>exact slt
 refine aI.ind (fun q:Nat=>[(7,.t (.int .i64 (q:Int)))]) (fun q=>q<=l.length/\(l.take q).all (mJ (l.headD []).length)=true) (fun q=>l.length - q) 0 rfl (by simp) (fun q y=>?_);obtain⟨h1,h2⟩:=y;rcases Nat.lt_or_ge q l.length with h3|h3
 ·
  obtain⟨c,v⟩:=av h3;obtain⟨I,u⟩:=av (xs:=l) (k:=0) (by omega);have J:=qn v;have G:=qn u;have z:=hc c (List.mem_of_getElem? v);have D:=Bf u
  repeat'(first
|(with_reducible first|apply aa.seq|apply aa.block)
|((with_reducible apply aa.text);(try case hm=>exact rfl))
|(with_reducible first|apply aa.skip|apply aa.ret|apply ai|apply ay|apply aG|apply aO)
|((with_reducible apply aa.am);(case hc=>exact rfl))
|((with_reducible apply aa.ak);(case hc=>exact rfl))
|((with_reducible apply ab.ao);(case hp=>exact ae))
|((with_reducible apply ab.eN (b:=cG _))<;>intro y)
|((with_reducible apply ab.ed)<;>intro y)
|(with_reducible apply ab.af)
|((with_reducible apply ab.gf);(case hW=>exact rfl))
|((with_reducible apply ab.au);(case hW=>exact rfl);(case hx=>exact ac))
|((with_reducible apply ab.u0);(case hx=>first
|(exact aj (sK z))
|exact ac))
|fail)
  all_goals first
   |(refine aS (.inr rfl) rfl ?_)
   |(refine⟨q+1,rfl,rfl,⟨by omega,mK h2 v ?_⟩,by omega⟩)
  all_goals first
   |(rw[ia,sZ v (by rw[mJ,D];simp[*];try omega)];rfl)
   |(rw[mJ,D];simp[*];omega)
 ·
  have h4:=oG h2 h3
  repeat'(first
|(with_reducible apply aa.seq)
|((with_reducible apply aa.text);(try case hm=>exact rfl))
|(with_reducible first|apply aa.exit|apply aa.ret|apply ai|apply aA|apply az)
|((with_reducible apply aa.ak);(case hc=>exact rfl))
|((with_reducible apply ab.aw);(case hp=>exact ae))
|((with_reducible apply ab.aU)<;>intro y)
|(with_reducible apply ab.af)
|((with_reducible apply ab.u0);(case hx=>exact ac))
|fail)
  all_goals(refine aS (.inr rfl) rfl ?_;rw[ia,h4];simp;first|done|omega|(rw[<- List.length_eq_zero_iff];omega))
def CL{a b:List Int}(ha:a.length<=140737488351232)(hb:b.length<=140737488351232):Cl ap 135 [.t (aF a),.t (aF b)] [] (.aL [.t (.int .i64 (fP a b).1),.t (.int .i64 (fP a b).2)]) []:=by
 refine Cl.aE rfl Tryz.func135 rfl rfl rfl ?_;have h2:=Bg (l:=[a,b]) (by simp) (by simp;omega)
 cases u:ia [a,b]with
 |false=>
  rw[u]at h2
  repeat'(first
|(with_reducible apply aa.seq)
|((with_reducible apply aa.text);(try case hm=>exact rfl))
|(with_reducible first|apply aa.ret|apply ay)
|((with_reducible apply aa.am);(case hc=>exact rfl))
|(with_reducible apply ab.af)
|((with_reducible apply ab.u0);(case hx=>first
|(exact aj h2)
|exact ac))
|fail)
  all_goals(refine xj (.inr rfl) rfl ?_;simp[fP,u])
 |true=>
  rw[u]at h2;have v:=Bh u
  repeat'(first
|(with_reducible first|apply aa.seq|apply aa.block)
|((with_reducible apply aa.text);(try case hm=>exact rfl))
|(with_reducible first|apply aa.skip|apply aa.ret|apply ai|apply ay|apply aG|apply aO)
|((with_reducible apply aa.am);(case hc=>exact rfl))
|((with_reducible apply aa.ak);(case hc=>exact rfl))
|((with_reducible apply ab.eN (b:=eY _ _))<;>intro y)
|(with_reducible apply ab.af)
|((with_reducible apply ab.gf);(case hW=>exact rfl))
|((with_reducible apply ab.au);(case hW=>exact rfl);(case hx=>exact ac))
|((with_reducible apply ab.u0);(case hx=>first
|(exact aj h2)
|(exact aj (xH ha v))
|(exact aj (xH hb v.symm))
|exact ac))
|fail)
  all_goals(refine xj (.inr rfl) rfl ?_;simp[fP, *])
def D5{a:List Int}{r n:Int}(ha:a.length<=140737488351232):Cl ap 92 [.t (aF a),.t (.agg [.int .i64 r,.int .i64 n])] [] (.t (.bool (hasS a r n))) []:=by
 refine Cl.aE rfl Tryz.func92 rfl rfl rfl ?_;by_cases y:0<=r/\r <a.length
 ·
  obtain⟨x,hx⟩:=av (xs:=a) (k:=r.toNat) (by omega);have D:=bB hx;have v:=dt hx;obtain⟨z,h1⟩:=y
  repeat'(first
|(with_reducible apply aa.seq)
|((with_reducible apply aa.text);(try case hm=>exact rfl))
|((with_reducible apply aa.drawn);(case hm=>exact rfl))
|(with_reducible apply aa.ret)
|((with_reducible apply ab.eN (b:=cG _))<;>intro u)
|((with_reducible apply ab.bh);(case hp=>exact ae))
|((with_reducible apply ab.a_)<;>intro u)
|(with_reducible apply ab.af)
|((with_reducible apply ab.gf);(case hW=>exact rfl))
|((with_reducible apply ab.au);(case hW=>exact rfl);(case hx=>exact ac))
|((with_reducible apply ab.u0);(case hx=>first
|(exact aj (sK ha))
|exact ac))
|fail)
  all_goals(refine aS (.inr rfl) rfl ?_;rw[hasS,v];simp[*];try omega)
 ·
  repeat'(first
|(with_reducible apply aa.seq)
|((with_reducible apply aa.text);(try case hm=>exact rfl))
|((with_reducible apply aa.drawn);(case hm=>exact rfl))
|(with_reducible apply aa.ret)
|((with_reducible apply ab.eN (b:=cG _))<;>intro u)
|((with_reducible apply ab.aV);(case hp=>exact ae))
|((with_reducible apply ab.a_)<;>intro u)
|(with_reducible apply ab.af)
|((with_reducible apply ab.gf);(case hW=>exact rfl))
|((with_reducible apply ab.au);(case hW=>exact rfl);(case hx=>exact ac))
|((with_reducible apply ab.u0);(case hx=>first
|(exact aj (sK ha))
|exact ac))
|fail)
  all_goals(refine aS (.inr rfl) rfl ?_;simp[hasS, *];try omega)
def dh(e:Ev):List AV:=[.int .i64 e.r,.int .i64 e.n,.int .i64 e.t,aF e.past,.int .i64 e.k,.int .i64 e.a,.int .i64 e.gk,.int .i64 e.gi,.int .i64 e.ge,.int .i64 e.ga,.int .i64 e.to,.int .i64 e.pl,.int .i64 e.se]
def dX(e:Ev):AV:=.agg (dh e)
def cL{α:Type}(p:α->Bool):List α->Int->Int
 |[],_=> -1
 |x::xs,i=>if p x then i else cL p xs (i+1)
def np{α:Type}(p:α->Bool)(x:α)(xs:List α)(i:Int):cL p (x::xs) i=if p x then i else cL p xs (i+1):=rfl
def drop_at{α:Type}{xs:List α}{k:Nat}{x:α}(h:xs[k]?=some x):xs.drop k=x::xs.drop (k+1):=by
 obtain⟨h1,rfl⟩:=List.getElem?_eq_some_iff.1 h;exact List.drop_eq_getElem_cons h1
theorem pc{α:Type}(p:α->Bool):∀(xs:List α) (i:Int),0<=i->decide (0<=cL p xs i)=xs.any p
 |[],i,_=>rfl
 |x::xs,i,h=>by
  unfold cL
  cases u:p x with
  |true=>simp[u,h]
  |false=>simp only[List.any_cons,u,Bool.false_or];exact pc p xs (i+1) (by omega)
def Dg{xs v:List Int}(hl:xs.length<=140737488351232)(hm:v.length<=140737488351232):Cl ap 36 [.t (aF xs),.t (aF v)] [] (.t (.bool (xs==v))) []:=by
 refine Cl.aE rfl Tryz.func36 rfl rfl rfl ?_;by_cases y:xs.length=v.length
 ·
  repeat'(first
|(with_reducible first|apply aa.seq|apply aa.block)
|((with_reducible apply aa.text);(try case hm=>exact rfl))
|(with_reducible first|apply aa.skip|apply ai)
|((with_reducible apply aa.ak);(case hc=>exact rfl))
|((with_reducible apply ab.cz);(case hp=>exact ae))
|(with_reducible apply ab.af)
|((with_reducible apply ab.u0);(case hx=>exact ac))
|fail)
  apply aa.aM
  case ho=>exact rfl
  case hp=>exact rfl
  case hl=>exact rfl
  case hs=>exact slt
  refine aI.ind (fun q:Nat=>[(13,.t (.int .i64 (q:Int)))]) (fun q=>q<=xs.length/\xs.take q=v.take q) (fun q=>xs.length - q) 0 rfl (by simp) (fun q D=>?_);obtain⟨h1,h2⟩:=D;rcases Nat.lt_or_ge q xs.length with h3|h3
  ·
   obtain⟨n,z⟩:=av h3;obtain⟨m,u⟩:=av (xs:=v) (k:=q) (by omega);have hc:=bB z;have G:=bB u
   repeat'(first
|(with_reducible first|apply aa.seq|apply aa.block)
|((with_reducible apply aa.text);(try case hm=>exact rfl))
|((with_reducible apply aa.drawn);(case hm=>exact rfl))
|(with_reducible first|apply aa.skip|apply aa.ret|apply ai|apply ay|apply aG|apply aO)
|((with_reducible apply aa.am);(case hc=>exact rfl))
|((with_reducible apply aa.ak);(case hc=>exact rfl))
|((with_reducible apply ab.ao);(case hp=>exact ae))
|((with_reducible apply ab.fV)<;>intro D)
|(with_reducible apply ab.af)
|((with_reducible apply ab.u0);(case hx=>exact ac))
|fail)
   all_goals first
    |(refine aS (.inr rfl) rfl ?_)
    |(refine⟨q+1,rfl,rfl,⟨by omega,?_⟩,by omega⟩)
   all_goals first
    |(rw[List.take_add_one,List.take_add_one,h2,z,u];simp_all;done)
    |(symm;rw[beq_eq_false_iff_ne];rintro rfl;rw[z]at u;cases u;omega)
  ·
   rw[List.take_of_length_le h3,List.take_of_length_le (by omega)]at h2
   repeat'(first
|(with_reducible apply aa.seq)
|((with_reducible apply aa.text);(try case hm=>exact rfl))
|(with_reducible first|apply aa.exit|apply aa.ret|apply ai|apply aA|apply az)
|((with_reducible apply aa.ak);(case hc=>exact rfl))
|((with_reducible apply ab.aw);(case hp=>exact ae))
|(with_reducible apply ab.af)
|((with_reducible apply ab.u0);(case hx=>exact ac))
|fail)
   all_goals(refine aS (.inr rfl) rfl ?_;rw[h2];simp)
 ·
  repeat'(first
|(with_reducible apply aa.seq)
|((with_reducible apply aa.text);(try case hm=>exact rfl))
|(with_reducible first|apply aa.ret|apply ay)
|((with_reducible apply aa.am);(case hc=>exact rfl))
|((with_reducible apply ab.fa);(case hp=>exact ae))
|(with_reducible apply ab.af)
|((with_reducible apply ab.u0);(case hx=>exact ac))
|fail)
  all_goals(refine aS (.inr rfl) rfl ?_;symm;rw[beq_eq_false_iff_ne];rintro rfl;exact y rfl)
def Fx:ap.P.eqGuardType ap.P.depth 34=false:=by kernel_rfl
set_option maxHeartbeats 4000000
def DS(e:Ev):Cl ap 53 [.t (dX e)] [] (.lm 0) [.map false [.int .i64 0,.int .i64 1,.int .i64 2] [.fn (.func 102) 0 [.lp 1 0],.fn (.func 103) 0 [.lp 1 0],.fn (.func 104) 0 [.lp 1 0]],.box false 36 ((dh e).map .t)]:=⟨3,by kernel_rfl⟩
def jX(n l h:Int):Cl ap 52 [.t (.int .i64 n),.t (.int .i64 l),.t (.int .i64 h)] [] (.t (.bool (cD n l h))) []:=BG n l h
def mR(a gk gi ge ga to pl se:Int):List SV:=[.t (.int .i64 0),.t (.int .i64 0),.t (.int .i64 0),.nil,.t (.int .i64 0),.t (.int .i64 a),.t (.int .i64 gk),.t (.int .i64 gi),.t (.int .i64 ge),.t (.int .i64 ga),.t (.int .i64 to),.t (.int .i64 pl),.t (.int .i64 se)]
section
variable (e:Ev) (a gk gi ge ga to pl se:Int)
def DO:Cl ap 102 [.lp 0 0,.t (.tp (dh e))] [.box false 36 (mR a gk gi ge ga to pl se)] (.t (.bool (mI e))) [.box false 36 (mR 0 gk gi ge ga to 0 0)]:=by
 refine Cl.aE rfl Tryz.func102 rfl rfl rfl ?_
 repeat'(first
|(with_reducible apply aa.seq)
|((with_reducible apply aa.text);(try case hm=>exact rfl))
|(with_reducible apply aa.ret)
|((with_reducible apply ab.eN (b:=cD _ _ _))<;>intro u)
|((with_reducible apply ab.e_ (b:=cD _ _ _))<;>intro u)
|(with_reducible apply ab.af)
|((with_reducible apply ab.gf);(case hW=>exact rfl))
|((with_reducible apply ab.au);(case hW=>exact rfl);(case hx=>first
|(exact aj (jX _ _ _))
|exact ac))
|((with_reducible apply ab.u0);(case hx=>first
|(exact aj (jX _ _ _))
|exact ac))
|fail)
 all_goals(refine aS (.inr rfl) rfl ?_;simp[mI, *])
def DQ:Cl ap 104 [.lp 0 0,.t (.tp (dh e))] [.box false 36 (mR a gk gi ge ga to pl se)] (.t (.bool (ry e))) [.box false 36 (mR a gk gi ge ga to 0 0)]:=by
 refine Cl.aE rfl Tryz.func104 rfl rfl rfl ?_
 repeat'(first
|(with_reducible apply aa.seq)
|((with_reducible apply aa.text);(try case hm=>exact rfl))
|(with_reducible apply aa.ret)
|((with_reducible apply ab.eN (b:=cD _ _ _))<;>intro u)
|((with_reducible apply ab.e_ (b:=cD _ _ _))<;>intro u)
|(with_reducible apply ab.af)
|((with_reducible apply ab.gf);(case hW=>exact rfl))
|((with_reducible apply ab.au);(case hW=>exact rfl);(case hx=>first
|(exact aj (jX _ _ _))
|exact ac))
|((with_reducible apply ab.u0);(case hx=>first
|(exact aj (jX _ _ _))
|exact ac))
|fail)
 all_goals(refine aS (.inr rfl) rfl ?_;simp[ry, *])
def DP(hl:e.past.length<=140737488351232):Cl ap 103 [.lp 0 0,.t (.tp (dh e))] [.box false 36 (mR a gk gi ge ga to pl se)] (.t (.bool (qL e))) [.box false 36 (mR a 0 0 0 0 0 pl se)]:=by
 refine Cl.aE rfl Tryz.func103 rfl rfl rfl ?_
 repeat'(first
|(with_reducible apply aa.seq)
|((with_reducible apply aa.text);(try case hm=>exact rfl))
|(with_reducible first|apply aa.skip|apply aa.ret|apply ai)
|((with_reducible apply aa.am);(case hc=>exact rfl))
|((with_reducible apply aa.ak);(case hc=>exact rfl))
|((with_reducible apply ab.aU)<;>intro u)
|((with_reducible apply ab.eN (b:=cD _ _ _))<;>intro u)
|((with_reducible apply ab.ed)<;>intro u)
|((with_reducible apply ab.e_ (b:=cD _ _ _))<;>intro u)
|(with_reducible apply ab.af)
|((with_reducible apply ab.gf);(case hW=>exact rfl))
|((with_reducible apply ab.au);(case hW=>exact rfl);(case hx=>first
|(exact aj (jX _ _ _))
|exact ac))
|((with_reducible apply ab.u0);(case hx=>first
|(exact aj (jX _ _ _))
|exact ac))
|fail)
 all_goals(refine aS (.inr rfl) rfl ?_;simp_all[qL])
end
def iN(e f:Ev):Bool:=decide (e.r=f.r)&&(decide (e.n=f.n)&&(decide (e.t=f.t)&&((e.past==f.past)&&(decide (e.k=f.k)&&(decide (e.a=f.a)&&((decide (e.gk=f.gk)&&(decide (e.gi=f.gi)&&(decide (e.ge=f.ge)&&decide (e.ga=f.ga))))&&(decide (e.to=f.to)&&(decide (e.pl=f.pl)&&decide (e.se=f.se)))))))))
def Fv(a b c d u v y z:Int):gF ap.P 20 34 [.int .i64 a,.int .i64 b,.int .i64 c,.int .i64 d] [.int .i64 u,.int .i64 v,.int .i64 y,.int .i64 z]=some ((decide (a=u)&&(decide (b=v)&&(decide (c=y)&&true)))&&(decide (d=z)&&true)):=by kernel_rfl
def tS(e f:Ev)(he:e.past.length<=140737488351232)(hf:f.past.length<=140737488351232):Cl ap 54 [.t (dX e),.t (dX f)] [] (.t (.bool (iN e f))) []:=by
 refine Cl.aE rfl Tryz.func54 rfl rfl rfl ?_
 repeat'(first
|(with_reducible apply aa.seq)
|((with_reducible apply aa.text);(try case hm=>exact rfl))
|(with_reducible first|apply ab.mL|apply ab.mM|apply aa.ret)
|((with_reducible apply ab.aU)<;>intro u)
|((with_reducible apply ab.a_)<;>intro u)
|((with_reducible apply ab.e_ (b:=_==_))<;>intro u)
|((with_reducible apply ab.e_ (b:=_&&_))<;>intro u)
|(with_reducible apply ab.af)
|((with_reducible apply ab.gf);(case hW=>exact rfl))
|((with_reducible apply ab.au);(case hW=>exact rfl);(case hx=>first
|((with_reducible apply ah.eqs);(case hx|hy=>exact rfl);(case hg=>exact Fx);(case ht=>exact rfl);(case hr=>exact Fv _ _ _ _ _ _ _ _))
|(exact aj (Dg he hf))
|exact ac))
|((with_reducible apply ab.u0);(case hx=>exact ac))
|fail)
 all_goals(refine aS (.inr rfl) rfl ?_;simp_all[iN])
set_option maxRecDepth 100000
set_option maxHeartbeats 2000000
abbrev j5:Ev:=⟨0,0,0,[],0,0,0,0,0,0,0,0,0⟩
def tW(e:Ev):iN ⟨0,0,0,[],0,0,e.gk,e.gi,e.ge,e.ga,e.to,0,0⟩ j5=l4 e:=by
 rw[Bool.eq_iff_iff];simp[iN,l4,and_assoc]
def tX(e:Ev):iN ⟨0,0,0,[],0,e.a,0,0,0,0,0,e.pl,e.se⟩ j5=(decide (e.a=0)&&(decide (e.pl=0)&&decide (e.se=0))):=by
 rw[Bool.eq_iff_iff];simp[iN]
def tY(e:Ev):iN ⟨0,0,0,[],0,e.a,e.gk,e.gi,e.ge,e.ga,e.to,0,0⟩ j5=(decide (e.a=0)&&l4 e):=by
 rw[Bool.eq_iff_iff];simp[iN,l4,and_assoc]
def o5(k:Int):Option (Option Nat):=dY (.int .i64) (.int .i64 k) [.int .i64 0,.int .i64 1,.int .i64 2] 0
def DE{k:Int}(h:k=0):o5 k=some (some 0):=by subst h;rfl
def DF{k:Int}(h:k=1):o5 k=some (some 1):=by subst h;rfl
def DG{k:Int}(h:k=2):o5 k=some (some 2):=by subst h;rfl
def DH{k:Int}(h0:k≠0)(h1:k≠1)(h2:k≠2):o5 k=some none:=by simp[o5,dY,ij,h0,h1,h2]
def xu(e:Ev)(hl:e.past.length<=140737488351232):Cl ap 12 [.t (dX e)] [] (.t (.bool (bU e))) []:=by
 refine Cl.aE rfl Tryz.func12 rfl rfl rfl ?_;have y:=sK hl
 cases hv:cG e.past with
 |false=>
  rw[hv]at y
  repeat'(first
|(with_reducible apply aa.seq)
|((with_reducible apply aa.text);(try case hm=>exact rfl))
|((with_reducible apply aa.drawn);(case hm=>exact rfl))
|(with_reducible first|apply aa.ret|apply ay)
|((with_reducible apply aa.am);(case hc=>exact rfl))
|(with_reducible apply ab.af)
|((with_reducible apply ab.gf);(case hW=>exact rfl))
|((with_reducible apply ab.u0);(case hx=>first
|(exact aj y)
|exact ac))
|fail)
  all_goals(refine aS (.inr rfl) rfl ?_;simp[bU,iS,hv])
 |true=>
  rw[hv]at y
  cases D:cD e.r 0 ((e.past.length:Int) - 1)with
  |false=>
   have u:=jX e.r 0 ((e.past.length:Int) - 1);rw[D]at u
   repeat'(first
|(with_reducible apply aa.seq)
|((with_reducible apply aa.text);(try case hm=>exact rfl))
|((with_reducible apply aa.drawn);(case hm=>exact rfl))
|(with_reducible first|apply aa.ret|apply ay)
|((with_reducible apply aa.am);(case hc=>exact rfl))
|(with_reducible apply ab.af)
|((with_reducible apply ab.gf);(case hW=>exact rfl))
|((with_reducible apply ab.au);(case hW=>exact rfl);(case hx=>first
|(exact aj u)
|exact ac))
|((with_reducible apply ab.u0);(case hx=>first
|(exact aj y)
|exact ac))
|fail)
   all_goals(refine aS (.inr rfl) rfl ?_;simp[bU,iS,hv,D])
  |true=>
   have u:=jX e.r 0 ((e.past.length:Int) - 1);rw[D]at u;have hr:0<=e.r/\e.r <e.past.length:=by simp[cD]at D;omega
   obtain⟨V,h1⟩:=hr;obtain⟨x,hx⟩:=av (xs:=e.past) (k:=e.r.toNat) (by omega);have hc:=bB hx;have I:=dt hx;have U:=rA hv hx
   repeat'(first
|(with_reducible apply aa.seq)
|((with_reducible apply aa.text);(try case hm=>exact rfl))
|((with_reducible apply aa.drawn);(case hm=>exact rfl))
|(with_reducible first|apply aa.skip|apply aa.ret|apply ai|apply ay)
|((with_reducible apply aa.am);(case hc=>exact rfl))
|((with_reducible apply aa.ak);(case hc=>exact rfl))
|((with_reducible apply ab.a_)<;>intro z)
|((with_reducible apply ab.ed)<;>intro z)
|((with_reducible apply ab.e_ (b:=cD _ _ _))<;>intro z)
|(with_reducible apply ab.af)
|((with_reducible apply ab.gf);(case hW=>exact rfl))
|((with_reducible apply ab.au);(case hW=>exact rfl);(case hx=>first
|(exact aj u)
|(exact aj (jX _ _ _))
|exact ac))
|((with_reducible apply ab.u0);(case hx=>first
|(exact aj y)
|(exact rC (DS e))
|exact ac))
|fail)
   all_goals first
    |(refine aS (.inr rfl) rfl ?_;rw[bU,iS,I];simp[*];first|done|omega)
    |skip
   have G:iS e=true:=by rw[iS,I];simp[*];omega
   by_cases J:e.k=0
   ·
    repeat'(first
|(with_reducible apply aa.seq)
|((with_reducible apply aa.text);(try case hm=>exact rfl))
|(with_reducible first|apply aa.skip|apply aa.ret|apply ai)
|((with_reducible apply aa.ak);(case hc=>exact rfl))
|((with_reducible apply ab.eN (b:=mI _))<;>intro z)
|((with_reducible apply ab.e_ (b:=iN _ _))<;>intro z)
|(with_reducible apply ab.af)
|((with_reducible apply ab.gf);(case hW=>exact rfl))
|((with_reducible apply ab.au);(case hW=>exact rfl);(case hx=>first
|((with_reducible apply ah.jm (parts:=#[]) (cs:=[.t (.int .i64 0),.t (.int .i64 0),.t (.int .i64 0),.nil,.t (.int .i64 0),.t (.int .i64 0),.t (.int .i64 0),.t (.int .i64 0),.t (.int .i64 0),.t (.int .i64 0),.t (.int .i64 0),.t (.int .i64 0),.t (.int .i64 0)]) (v:=.agg [.t (.int .i64 0),.t (.int .i64 0),.t (.int .i64 0),.nil,.t (.int .i64 0),.t (.int .i64 0),.t (.int .i64 0),.t (.int .i64 0),.t (.int .i64 0),.t (.int .i64 0),.t (.int .i64 0),.t (.int .i64 0),.t (.int .i64 0)]));(case ho=>kernel_rfl);(case h=>kernel_rfl);(case hv=>kernel_rfl))
|((with_reducible apply ah.qj);(case hcal|hav|hx|hh|hm=>exact rfl);(case hcl=>exact tS ⟨0,0,0,[],0,0,e.gk,e.gi,e.ge,e.ga,e.to,0,0⟩ j5 (by simp) (by simp[j5]));(case hr=>exact rfl))
|exact ac))
|((with_reducible apply ab.u0);(case hx=>first
|((with_reducible apply ah.kx);(case hm|hk|ho=>exact rfl);(case hf=>exact DE J);(case hz=>exact rfl))
|((with_reducible apply ah.jm (cs:=[.t (.int .i64 0),.t (.int .i64 0),.t (.int .i64 0),.nil,.t (.int .i64 0),.t (.int .i64 e.a),.t (.int .i64 e.gk),.t (.int .i64 e.gi),.t (.int .i64 e.ge),.t (.int .i64 e.ga),.t (.int .i64 e.to),.t (.int .i64 e.pl),.t (.int .i64 e.se)]) (v:=.agg [.t (.int .i64 0),.t (.int .i64 0),.t (.int .i64 0),.nil,.t (.int .i64 0),.t (.int .i64 e.a),.t (.int .i64 e.gk),.t (.int .i64 e.gi),.t (.int .i64 e.ge),.t (.int .i64 e.ga),.t (.int .i64 e.to),.t (.int .i64 e.pl),.t (.int .i64 e.se)]));(case ho=>kernel_rfl);(case h=>kernel_rfl);(case hv=>kernel_rfl))
|(exact uV [1] (DO e _ _ _ _ _ _ _ _))
|exact ac))
|fail)
    all_goals(refine aS (.inr rfl) rfl ?_;clear y u;(try simp only[tW,tX,tY]at*);rw[bU,G];simp only[*];simp)
   by_cases O:e.k=1
   ·
    repeat'(first
|(with_reducible apply aa.seq)
|((with_reducible apply aa.text);(try case hm=>exact rfl))
|(with_reducible first|apply aa.skip|apply aa.ret|apply ai)
|((with_reducible apply aa.ak);(case hc=>exact rfl))
|((with_reducible apply ab.eN (b:=qL _))<;>intro z)
|((with_reducible apply ab.e_ (b:=iN _ _))<;>intro z)
|(with_reducible apply ab.af)
|((with_reducible apply ab.gf);(case hW=>exact rfl))
|((with_reducible apply ab.au);(case hW=>exact rfl);(case hx=>first
|((with_reducible apply ah.jm (parts:=#[]) (cs:=[.t (.int .i64 0),.t (.int .i64 0),.t (.int .i64 0),.nil,.t (.int .i64 0),.t (.int .i64 0),.t (.int .i64 0),.t (.int .i64 0),.t (.int .i64 0),.t (.int .i64 0),.t (.int .i64 0),.t (.int .i64 0),.t (.int .i64 0)]) (v:=.agg [.t (.int .i64 0),.t (.int .i64 0),.t (.int .i64 0),.nil,.t (.int .i64 0),.t (.int .i64 0),.t (.int .i64 0),.t (.int .i64 0),.t (.int .i64 0),.t (.int .i64 0),.t (.int .i64 0),.t (.int .i64 0),.t (.int .i64 0)]));(case ho=>kernel_rfl);(case h=>kernel_rfl);(case hv=>kernel_rfl))
|((with_reducible apply ah.qj);(case hcal|hav|hx|hh|hm=>exact rfl);(case hcl=>exact tS ⟨0,0,0,[],0,e.a,0,0,0,0,0,e.pl,e.se⟩ j5 (by simp) (by simp[j5]));(case hr=>exact rfl))
|exact ac))
|((with_reducible apply ab.u0);(case hx=>first
|((with_reducible apply ah.kx);(case hm|hk|ho=>exact rfl);(case hf=>exact DF O);(case hz=>exact rfl))
|((with_reducible apply ah.jm (cs:=[.t (.int .i64 0),.t (.int .i64 0),.t (.int .i64 0),.nil,.t (.int .i64 0),.t (.int .i64 e.a),.t (.int .i64 e.gk),.t (.int .i64 e.gi),.t (.int .i64 e.ge),.t (.int .i64 e.ga),.t (.int .i64 e.to),.t (.int .i64 e.pl),.t (.int .i64 e.se)]) (v:=.agg [.t (.int .i64 0),.t (.int .i64 0),.t (.int .i64 0),.nil,.t (.int .i64 0),.t (.int .i64 e.a),.t (.int .i64 e.gk),.t (.int .i64 e.gi),.t (.int .i64 e.ge),.t (.int .i64 e.ga),.t (.int .i64 e.to),.t (.int .i64 e.pl),.t (.int .i64 e.se)]));(case ho=>kernel_rfl);(case h=>kernel_rfl);(case hv=>kernel_rfl))
|(exact uV [1] (DP e _ _ _ _ _ _ _ _ hl))
|exact ac))
|fail)
    all_goals(refine aS (.inr rfl) rfl ?_;clear y u;(try simp only[tW,tX,tY]at*);rw[bU,G];simp only[*];simp)
   by_cases Q:e.k=2
   ·
    repeat'(first
|(with_reducible apply aa.seq)
|((with_reducible apply aa.text);(try case hm=>exact rfl))
|(with_reducible first|apply aa.skip|apply aa.ret|apply ai)
|((with_reducible apply aa.ak);(case hc=>exact rfl))
|((with_reducible apply ab.eN (b:=ry _))<;>intro z)
|((with_reducible apply ab.e_ (b:=iN _ _))<;>intro z)
|(with_reducible apply ab.af)
|((with_reducible apply ab.gf);(case hW=>exact rfl))
|((with_reducible apply ab.au);(case hW=>exact rfl);(case hx=>first
|((with_reducible apply ah.jm (parts:=#[]) (cs:=[.t (.int .i64 0),.t (.int .i64 0),.t (.int .i64 0),.nil,.t (.int .i64 0),.t (.int .i64 0),.t (.int .i64 0),.t (.int .i64 0),.t (.int .i64 0),.t (.int .i64 0),.t (.int .i64 0),.t (.int .i64 0),.t (.int .i64 0)]) (v:=.agg [.t (.int .i64 0),.t (.int .i64 0),.t (.int .i64 0),.nil,.t (.int .i64 0),.t (.int .i64 0),.t (.int .i64 0),.t (.int .i64 0),.t (.int .i64 0),.t (.int .i64 0),.t (.int .i64 0),.t (.int .i64 0),.t (.int .i64 0)]));(case ho=>kernel_rfl);(case h=>kernel_rfl);(case hv=>kernel_rfl))
|((with_reducible apply ah.qj);(case hcal|hav|hx|hh|hm=>exact rfl);(case hcl=>exact tS ⟨0,0,0,[],0,e.a,e.gk,e.gi,e.ge,e.ga,e.to,0,0⟩ j5 (by simp) (by simp[j5]));(case hr=>exact rfl))
|exact ac))
|((with_reducible apply ab.u0);(case hx=>first
|((with_reducible apply ah.kx);(case hm|hk|ho=>exact rfl);(case hf=>exact DG Q);(case hz=>exact rfl))
|((with_reducible apply ah.jm (cs:=[.t (.int .i64 0),.t (.int .i64 0),.t (.int .i64 0),.nil,.t (.int .i64 0),.t (.int .i64 e.a),.t (.int .i64 e.gk),.t (.int .i64 e.gi),.t (.int .i64 e.ge),.t (.int .i64 e.ga),.t (.int .i64 e.to),.t (.int .i64 e.pl),.t (.int .i64 e.se)]) (v:=.agg [.t (.int .i64 0),.t (.int .i64 0),.t (.int .i64 0),.nil,.t (.int .i64 0),.t (.int .i64 e.a),.t (.int .i64 e.gk),.t (.int .i64 e.gi),.t (.int .i64 e.ge),.t (.int .i64 e.ga),.t (.int .i64 e.to),.t (.int .i64 e.pl),.t (.int .i64 e.se)]));(case ho=>kernel_rfl);(case h=>kernel_rfl);(case hv=>kernel_rfl))
|(exact uV [1] (DQ e _ _ _ _ _ _ _ _))
|exact ac))
|fail)
    all_goals(refine aS (.inr rfl) rfl ?_;clear y u;(try simp only[tW,tX,tY]at*);rw[bU,G];simp only[*];simp)
   repeat'(first
|(with_reducible apply aa.seq)
|((with_reducible apply aa.text);(try case hm=>exact rfl))
|(with_reducible first|apply aa.ret|apply ay)
|((with_reducible apply aa.am);(case hc=>exact rfl))
|(with_reducible apply ab.af)
|((with_reducible apply ab.u0);(case hx=>first
|((with_reducible apply ah.lk);(case hm|hk|ho=>exact rfl);(case hf=>exact DH J O Q);(case hz=>exact rfl))
|exact ac))
|fail)
   all_goals(refine aS (.inr rfl) rfl ?_;clear y u;simp_all[bU])
set_option maxHeartbeats 4000000
def mV(l:List (List Int)):(dW l).length=l.length:=by simp[dW]
def GG{a b:List Int}(ha:a.length<=140737488351232)(hb:b.length<=140737488351232):Cl ap 31 [.t (aF a),.t (aF b)] [] (.t (.bool (a==b))) []:=by
 refine Cl.aE rfl Tryz.func31 rfl rfl rfl ?_;by_cases v:a.length=b.length
 ·
  repeat'(first
|(with_reducible first|apply aa.seq|apply aa.block)
|((with_reducible apply aa.text);(try case hm=>exact rfl))
|(with_reducible first|apply aa.skip|apply ai)
|((with_reducible apply aa.ak);(case hc=>exact rfl))
|((with_reducible apply ab.cz);(case hp=>exact ae))
|(with_reducible apply ab.af)
|((with_reducible apply ab.u0);(case hx=>exact ac))
|fail)
  apply aa.aM
  case ho=>exact rfl
  case hp=>exact rfl
  case hl=>exact rfl
  case hs=>exact slt
  refine aI.ind (fun q:Nat=>[(5,.t (.int .i64 (q:Int)))]) (fun q=>q<=a.length/\a.take q=b.take q) (fun q=>a.length - q) 0 rfl (by simp) (fun q z=>?_);obtain⟨h1,h2⟩:=z;rcases Nat.lt_or_ge q a.length with h3|h3
  ·
   obtain⟨n,y⟩:=av h3;obtain⟨m,u⟩:=av (xs:=b) (k:=q) (by omega);have hc:=bB y;have D:=bB u
   repeat'(first
|(with_reducible first|apply aa.seq|apply aa.block)
|((with_reducible apply aa.text);(try case hm=>exact rfl))
|((with_reducible apply aa.drawn);(case hm=>exact rfl))
|(with_reducible first|apply aa.skip|apply aa.ret|apply ai|apply ay|apply aG|apply aO)
|((with_reducible apply aa.am);(case hc=>exact rfl))
|((with_reducible apply aa.ak);(case hc=>exact rfl))
|((with_reducible apply ab.ao);(case hp=>exact ae))
|((with_reducible apply ab.fV)<;>intro z)
|(with_reducible apply ab.af)
|((with_reducible apply ab.u0);(case hx=>exact ac))
|fail)
   all_goals first
    |(refine aS (.inr rfl) rfl ?_)
    |(refine⟨q+1,rfl,rfl,⟨by omega,?_⟩,by omega⟩)
   all_goals first
    |(rw[List.take_add_one,List.take_add_one,h2,y,u];simp_all;done)
    |(symm;rw[beq_eq_false_iff_ne];rintro rfl;rw[y]at u;cases u;omega)
  ·
   rw[List.take_of_length_le h3,List.take_of_length_le (by omega)]at h2
   repeat'(first
|(with_reducible apply aa.seq)
|((with_reducible apply aa.text);(try case hm=>exact rfl))
|(with_reducible first|apply aa.exit|apply aa.ret|apply ai|apply aA|apply az)
|((with_reducible apply aa.ak);(case hc=>exact rfl))
|((with_reducible apply ab.aw);(case hp=>exact ae))
|(with_reducible apply ab.af)
|((with_reducible apply ab.u0);(case hx=>exact ac))
|fail)
   all_goals(refine aS (.inr rfl) rfl ?_;rw[h2];simp)
 ·
  repeat'(first
|(with_reducible apply aa.seq)
|((with_reducible apply aa.text);(try case hm=>exact rfl))
|(with_reducible first|apply aa.ret|apply ay)
|((with_reducible apply aa.am);(case hc=>exact rfl))
|((with_reducible apply ab.fa);(case hp=>exact ae))
|(with_reducible apply ab.af)
|((with_reducible apply ab.u0);(case hx=>exact ac))
|fail)
  all_goals(refine aS (.inr rfl) rfl ?_;symm;rw[beq_eq_false_iff_ne];rintro rfl;exact v rfl)
end Go.Proofs.YtgbfedgghjcdcaaGreatDoor
