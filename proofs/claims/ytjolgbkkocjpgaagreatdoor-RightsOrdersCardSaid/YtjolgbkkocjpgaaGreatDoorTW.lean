/- Law 52: clocks compared;sessions' clocks. No condition. -/
import Derived.Test.YtjolgbkkocjpgaaGreatDoorTX
import Derived.Test.YtjolgbkkocjpgaaGreatDoorTS
set_option linter.defProp false
set_option linter.unusedSimpArgs false
set_option linter.unusedVariables false
set_option linter.unusedSectionVars false
namespace Go.Proofs.YtjolgbkkocjpgaaGreatDoor
open Go.RowKit
set_option maxRecDepth 100000
def c9(e:Ev):List AV:=[.int .i64 e.r,.int .i64 e.n,.int .i64 e.t,ax e.past,.int .i64 e.k,.int .i64 e.a,.int .i64 e.gk,.int .i64 e.gi,.int .i64 e.ge,.int .i64 e.ga,.int .i64 e.to,.int .i64 e.pl,.int .i64 e.se]
def cV(e:Ev):AV:=.agg (c9 e)
def a8{α:Type}(p:α->Bool):List α->Int->Int
 |[],_=> -1
 |x::xs,i=>if p x then i else a8 p xs (i+1)
def gV{α:Type}(p:α->Bool)(x:α)(xs:List α)(i:Int):a8 p (x::xs) i=if p x then i else a8 p xs (i+1):=rfl
def drop_at{α:Type}{xs:List α}{k:Nat}{x:α}(h:xs[k]?=some x):xs.drop k=x::xs.drop (k+1):=by
 obtain⟨h1,rfl⟩:=List.getElem?_eq_some_iff.1 h;exact List.drop_eq_getElem_cons h1
theorem gy{α:Type}(p:α->Bool):∀(xs:List α) (i:Int),0<=i->decide (0<=a8 p xs i)=xs.any p
 |[],i,_=>rfl
 |x::xs,i,h=>by
  unfold a8
  cases u:p x with
  |true=>simp[u,h]
  |false=>simp only[List.any_cons,u,Bool.false_or];exact gy p xs (i+1) (by omega)
def Dw{xs ys:List Int}(hl:xs.length<=140737488351232)(hm:ys.length<=140737488351232):Cl ai 14 [.t (ax xs),.t (ax ys)] [] (.t (.bool (xs==ys))) []:=by
 refine Cl.ao rfl Tryz.func14 rfl rfl rfl ?_;by_cases v:xs.length=ys.length
 ·
  refine ar ?_;refine aC.ind (fun q:Nat=>[(13,.t (.int .i64 (q:Int)))]) (fun q=>q<=xs.length/\xs.take q=ys.take q) (fun q=>xs.length - q) 0 rfl (by simp) (fun q z=>?_);obtain⟨h1,h2⟩:=z;rcases Nat.lt_or_ge q xs.length with h3|h3
  ·
   obtain⟨n,y⟩:=am h3;obtain⟨m,u⟩:=am (xs:=ys) (k:=q) (by omega);have hc:=aU y;have hd:=aU u
   repeat'(first
|(with_reducible first|apply ac.seq|apply ac.block)
|((with_reducible apply ac.text);(try case hm=>exact rfl))
|((with_reducible apply ac.drawn);(case hm=>exact rfl))
|(with_reducible first|apply ac.skip|apply ac.ret|apply az|apply aV|apply bk|apply bq)
|((with_reducible apply ac.aA);(case hc=>exact rfl))
|((with_reducible apply ac.aH);(case hc=>exact rfl))
|((with_reducible apply aa.aE);(case hp=>exact aj))
|((with_reducible apply aa.fP)<;>intro z)
|(with_reducible apply aa.ap)
|((with_reducible apply aa.u0);(case hx=>exact ah))
|fail)
   all_goals first
    |(refine aZ (.inr rfl) rfl ?_)
    |(refine⟨q+1,rfl,rfl,⟨by omega,?_⟩,by omega⟩)
   all_goals first
    |(rw[List.take_add_one,List.take_add_one,h2,y,u];simp_all;done)
    |(symm;rw[beq_eq_false_iff_ne];rintro rfl;rw[y]at u;cases u;omega)
  ·
   rw[List.take_of_length_le h3,List.take_of_length_le (by omega)]at h2
   repeat'(first
|(with_reducible apply ac.seq)
|((with_reducible apply ac.text);(try case hm=>exact rfl))
|(with_reducible first|apply ac.exit|apply ac.ret|apply az|apply cR|apply cS)
|((with_reducible apply ac.aH);(case hc=>exact rfl))
|((with_reducible apply aa.bC);(case hp=>exact aj))
|(with_reducible apply aa.ap)
|((with_reducible apply aa.u0);(case hx=>exact ah))
|fail)
   all_goals(refine aZ (.inr rfl) rfl ?_;rw[h2];simp)
 ·
  refine ar ?_
  all_goals(refine aZ (.inr rfl) rfl ?_;symm;rw[beq_eq_false_iff_ne];rintro rfl;exact v rfl)
def KE:ai.P.eqGuardType ai.P.depth 55=false:=by kernel_rfl
set_option maxHeartbeats 4000000
def KF(e:Ev):Cl ai 158 [.t (cV e)] [] (.lm 0) [.map false [.int .i64 0,.int .i64 1,.int .i64 2] [.fn (.func 181) 0 [.lp 1 0],.fn (.func 182) 0 [.lp 1 0],.fn (.func 183) 0 [.lp 1 0]],.box false 57 ((c9 e).map .t)]:=⟨3,by kernel_rfl⟩
def mV(n l h:Int):Cl ai 157 [.t (.int .i64 n),.t (.int .i64 l),.t (.int .i64 h)] [] (.t (.bool (dA n l h))) []:=KC n l h
def qG(a gk gi ge ga to pl se:Int):List SV:=[.t (.int .i64 0),.t (.int .i64 0),.t (.int .i64 0),.nil,.t (.int .i64 0),.t (.int .i64 a),.t (.int .i64 gk),.t (.int .i64 gi),.t (.int .i64 ge),.t (.int .i64 ga),.t (.int .i64 to),.t (.int .i64 pl),.t (.int .i64 se)]
section
variable (e:Ev) (a gk gi ge ga to pl se:Int)
def KG:Cl ai 181 [.lp 0 0,.t (.tp (c9 e))] [.box false 57 (qG a gk gi ge ga to pl se)] (.t (.bool (qk e))) [.box false 57 (qG 0 gk gi ge ga to 0 0)]:=by
 refine Cl.ao rfl Tryz.func181 rfl rfl rfl ?_
 repeat'(first
|(with_reducible apply ac.seq)
|((with_reducible apply ac.text);(try case hm=>exact rfl))
|(with_reducible apply ac.ret)
|((with_reducible apply aa.ji (b:=dA _ _ _))<;>intro u)
|((with_reducible apply aa.gM (b:=dA _ _ _))<;>intro u)
|(with_reducible apply aa.ap)
|((with_reducible apply aa.gf);(case hW=>exact rfl))
|((with_reducible apply aa.aD);(case hW=>exact rfl);(case hx=>first
|(exact aq (mV _ _ _))
|exact ah))
|((with_reducible apply aa.u0);(case hx=>first
|(exact aq (mV _ _ _))
|exact ah))
|fail)
 all_goals(refine aZ (.inr rfl) rfl ?_;simp[qk, *])
def KH:Cl ai 183 [.lp 0 0,.t (.tp (c9 e))] [.box false 57 (qG a gk gi ge ga to pl se)] (.t (.bool (uM e))) [.box false 57 (qG a gk gi ge ga to 0 0)]:=by
 refine Cl.ao rfl Tryz.func183 rfl rfl rfl ?_
 repeat'(first
|(with_reducible apply ac.seq)
|((with_reducible apply ac.text);(try case hm=>exact rfl))
|(with_reducible apply ac.ret)
|((with_reducible apply aa.ji (b:=dA _ _ _))<;>intro u)
|((with_reducible apply aa.gM (b:=dA _ _ _))<;>intro u)
|(with_reducible apply aa.ap)
|((with_reducible apply aa.gf);(case hW=>exact rfl))
|((with_reducible apply aa.aD);(case hW=>exact rfl);(case hx=>first
|(exact aq (mV _ _ _))
|exact ah))
|((with_reducible apply aa.u0);(case hx=>first
|(exact aq (mV _ _ _))
|exact ah))
|fail)
 all_goals(refine aZ (.inr rfl) rfl ?_;simp[uM, *])
def KI(hl:e.past.length<=140737488351232):Cl ai 182 [.lp 0 0,.t (.tp (c9 e))] [.box false 57 (qG a gk gi ge ga to pl se)] (.t (.bool (sb e))) [.box false 57 (qG a 0 0 0 0 0 pl se)]:=by
 refine Cl.ao rfl Tryz.func182 rfl rfl rfl ?_
 repeat'(first
|(with_reducible apply ac.seq)
|((with_reducible apply ac.text);(try case hm=>exact rfl))
|(with_reducible first|apply ac.skip|apply ac.ret|apply az)
|((with_reducible apply ac.aA);(case hc=>exact rfl))
|((with_reducible apply ac.aH);(case hc=>exact rfl))
|((with_reducible apply aa.bc)<;>intro u)
|((with_reducible apply aa.ji (b:=dA _ _ _))<;>intro u)
|((with_reducible apply aa.fg)<;>intro u)
|((with_reducible apply aa.gM (b:=dA _ _ _))<;>intro u)
|(with_reducible apply aa.ap)
|((with_reducible apply aa.gf);(case hW=>exact rfl))
|((with_reducible apply aa.aD);(case hW=>exact rfl);(case hx=>first
|(exact aq (mV _ _ _))
|exact ah))
|((with_reducible apply aa.u0);(case hx=>first
|(exact aq (mV _ _ _))
|exact ah))
|fail)
 all_goals(refine aZ (.inr rfl) rfl ?_;simp_all[sb])
end
def lh(e f:Ev):Bool:=decide (e.r=f.r)&&(decide (e.n=f.n)&&(decide (e.t=f.t)&&((e.past==f.past)&&(decide (e.k=f.k)&&(decide (e.a=f.a)&&((decide (e.gk=f.gk)&&(decide (e.gi=f.gi)&&(decide (e.ge=f.ge)&&decide (e.ga=f.ga))))&&(decide (e.to=f.to)&&(decide (e.pl=f.pl)&&decide (e.se=f.se)))))))))
def KJ(a b c d u v y z:Int):ic ai.P 20 55 [.int .i64 a,.int .i64 b,.int .i64 c,.int .i64 d] [.int .i64 u,.int .i64 v,.int .i64 y,.int .i64 z]=some ((decide (a=u)&&(decide (b=v)&&(decide (c=y)&&true)))&&(decide (d=z)&&true)):=by kernel_rfl
def yW(e f:Ev)(he:e.past.length<=140737488351232)(hf:f.past.length<=140737488351232):Cl ai 159 [.t (cV e),.t (cV f)] [] (.t (.bool (lh e f))) []:=by
 refine Cl.ao rfl Tryz.func159 rfl rfl rfl ?_
 repeat'(first
|(with_reducible apply ac.seq)
|((with_reducible apply ac.text);(try case hm=>exact rfl))
|(with_reducible first|apply aa.oL|apply aa.qb|apply ac.ret)
|((with_reducible apply aa.bc)<;>intro u)
|((with_reducible apply aa.bg)<;>intro u)
|((with_reducible apply aa.gM (b:=_==_))<;>intro u)
|((with_reducible apply aa.gM (b:=_&&_))<;>intro u)
|(with_reducible apply aa.ap)
|((with_reducible apply aa.gf);(case hW=>exact rfl))
|((with_reducible apply aa.aD);(case hW=>exact rfl);(case hx=>first
|((with_reducible apply ae.eqs);(case hx|hy=>exact rfl);(case hg=>exact KE);(case ht=>exact rfl);(case hr=>exact KJ _ _ _ _ _ _ _ _))
|(exact aq (Dw he hf))
|exact ah))
|((with_reducible apply aa.u0);(case hx=>exact ah))
|fail)
 all_goals(refine aZ (.inr rfl) rfl ?_;simp_all[lh])
set_option maxRecDepth 100000
set_option maxHeartbeats 2000000
abbrev mW:Ev:=⟨0,0,0,[],0,0,0,0,0,0,0,0,0⟩
def yX(e:Ev):lh ⟨0,0,0,[],0,0,e.gk,e.gi,e.ge,e.ga,e.to,0,0⟩ mW=qj e:=by
 rw[Bool.eq_iff_iff];simp[lh,qj,and_assoc]
def yY(e:Ev):lh ⟨0,0,0,[],0,e.a,0,0,0,0,0,e.pl,e.se⟩ mW=(decide (e.a=0)&&(decide (e.pl=0)&&decide (e.se=0))):=by
 rw[Bool.eq_iff_iff];simp[lh]
def yZ(e:Ev):lh ⟨0,0,0,[],0,e.a,e.gk,e.gi,e.ge,e.ga,e.to,0,0⟩ mW=(decide (e.a=0)&&qj e):=by
 rw[Bool.eq_iff_iff];simp[lh,qj,and_assoc]
def sD(k:Int):Option (Option Nat):=dG (.int .i64) (.int .i64 k) [.int .i64 0,.int .i64 1,.int .i64 2] 0
def KK{k:Int}(h:k=0):sD k=some (some 0):=by subst h;rfl
def KL{k:Int}(h:k=1):sD k=some (some 1):=by subst h;rfl
def KM{k:Int}(h:k=2):sD k=some (some 2):=by subst h;rfl
def KN{k:Int}(h0:k≠0)(h1:k≠1)(h2:k≠2):sD k=some none:=by simp[sD,dG,iY,h0,h1,h2]
def KO(e:Ev)(hl:e.past.length<=140737488351232):Cl ai 113 [.t (cV e)] [] (.t (.bool (dK e))) []:=by
 refine Cl.ao rfl Tryz.func113 rfl rfl rfl ?_;have y:=KD hl
 cases hv:iN e.past with
 |false=>
  rw[hv]at y;refine ar ?_
  all_goals(refine aZ (.inr rfl) rfl ?_;simp[dK,mK,hv])
 |true=>
  rw[hv]at y
  cases D:dA e.r 0 ((e.past.length:Int) - 1)with
  |false=>
   have u:=mV e.r 0 ((e.past.length:Int) - 1);rw[D]at u;refine ar ?_
   all_goals(refine aZ (.inr rfl) rfl ?_;simp[dK,mK,hv,D])
  |true=>
   have u:=mV e.r 0 ((e.past.length:Int) - 1);rw[D]at u;have hr:0<=e.r/\e.r <e.past.length:=by simp[dA]at D;omega
   obtain⟨Z,h1⟩:=hr;obtain⟨x,hx⟩:=am (xs:=e.past) (k:=e.r.toNat) (by omega);have hc:=aU hx;have hd:=eR hx;have V:=Cz hv hx
   repeat'(first
|(with_reducible apply ac.seq)
|((with_reducible apply ac.text);(try case hm=>exact rfl))
|((with_reducible apply ac.drawn);(case hm=>exact rfl))
|(with_reducible first|apply ac.skip|apply ac.ret|apply az|apply aV)
|((with_reducible apply ac.aA);(case hc=>exact rfl))
|((with_reducible apply ac.aH);(case hc=>exact rfl))
|((with_reducible apply aa.bg)<;>intro z)
|((with_reducible apply aa.fg)<;>intro z)
|((with_reducible apply aa.gM (b:=dA _ _ _))<;>intro z)
|(with_reducible apply aa.ap)
|((with_reducible apply aa.gf);(case hW=>exact rfl))
|((with_reducible apply aa.aD);(case hW=>exact rfl);(case hx=>first
|(exact aq u)
|(exact aq (mV _ _ _))
|exact ah))
|((with_reducible apply aa.u0);(case hx=>first
|(exact aq y)
|(exact yc (KF e))
|exact ah))
|fail)
   all_goals first
    |(refine aZ (.inr rfl) rfl ?_;rw[dK,mK,hd];simp[*];first|done|omega)
    |skip
   have G:mK e=true:=by rw[mK,hd];simp[*];omega
   by_cases I:e.k=0
   ·
    repeat'(first
|(with_reducible apply ac.seq)
|((with_reducible apply ac.text);(try case hm=>exact rfl))
|(with_reducible first|apply ac.skip|apply ac.ret|apply az)
|((with_reducible apply ac.aH);(case hc=>exact rfl))
|((with_reducible apply aa.ji (b:=qk _))<;>intro z)
|((with_reducible apply aa.gM (b:=lh _ _))<;>intro z)
|(with_reducible apply aa.ap)
|((with_reducible apply aa.gf);(case hW=>exact rfl))
|((with_reducible apply aa.aD);(case hW=>exact rfl);(case hx=>first
|((with_reducible apply ae.qc (parts:=#[]) (cs:=[.t (.int .i64 0),.t (.int .i64 0),.t (.int .i64 0),.nil,.t (.int .i64 0),.t (.int .i64 0),.t (.int .i64 0),.t (.int .i64 0),.t (.int .i64 0),.t (.int .i64 0),.t (.int .i64 0),.t (.int .i64 0),.t (.int .i64 0)]) (v:=.agg [.t (.int .i64 0),.t (.int .i64 0),.t (.int .i64 0),.nil,.t (.int .i64 0),.t (.int .i64 0),.t (.int .i64 0),.t (.int .i64 0),.t (.int .i64 0),.t (.int .i64 0),.t (.int .i64 0),.t (.int .i64 0),.t (.int .i64 0)]));(case ho=>kernel_rfl);(case h=>kernel_rfl);(case hv=>kernel_rfl))
|((with_reducible apply ae.r7);(case hcal|hav|hx|hh|hm=>exact rfl);(case hcl=>exact yW ⟨0,0,0,[],0,0,e.gk,e.gi,e.ge,e.ga,e.to,0,0⟩ mW (by simp) (by simp[mW]));(case hr=>exact rfl))
|exact ah))
|((with_reducible apply aa.u0);(case hx=>first
|((with_reducible apply ae.nG);(case hm|hk|ho=>exact rfl);(case hf=>exact KK I);(case hz=>exact rfl))
|((with_reducible apply ae.qc (cs:=[.t (.int .i64 0),.t (.int .i64 0),.t (.int .i64 0),.nil,.t (.int .i64 0),.t (.int .i64 e.a),.t (.int .i64 e.gk),.t (.int .i64 e.gi),.t (.int .i64 e.ge),.t (.int .i64 e.ga),.t (.int .i64 e.to),.t (.int .i64 e.pl),.t (.int .i64 e.se)]) (v:=.agg [.t (.int .i64 0),.t (.int .i64 0),.t (.int .i64 0),.nil,.t (.int .i64 0),.t (.int .i64 e.a),.t (.int .i64 e.gk),.t (.int .i64 e.gi),.t (.int .i64 e.ge),.t (.int .i64 e.ga),.t (.int .i64 e.to),.t (.int .i64 e.pl),.t (.int .i64 e.se)]));(case ho=>kernel_rfl);(case h=>kernel_rfl);(case hv=>kernel_rfl))
|(exact yd [1] (KG e _ _ _ _ _ _ _ _))
|exact ah))
|fail)
    all_goals(refine aZ (.inr rfl) rfl ?_;clear y u;(try simp only[yX,yY,yZ]at*);rw[dK,G];simp only[*];simp)
   by_cases J:e.k=1
   ·
    repeat'(first
|(with_reducible apply ac.seq)
|((with_reducible apply ac.text);(try case hm=>exact rfl))
|(with_reducible first|apply ac.skip|apply ac.ret|apply az)
|((with_reducible apply ac.aH);(case hc=>exact rfl))
|((with_reducible apply aa.ji (b:=sb _))<;>intro z)
|((with_reducible apply aa.gM (b:=lh _ _))<;>intro z)
|(with_reducible apply aa.ap)
|((with_reducible apply aa.gf);(case hW=>exact rfl))
|((with_reducible apply aa.aD);(case hW=>exact rfl);(case hx=>first
|((with_reducible apply ae.qc (parts:=#[]) (cs:=[.t (.int .i64 0),.t (.int .i64 0),.t (.int .i64 0),.nil,.t (.int .i64 0),.t (.int .i64 0),.t (.int .i64 0),.t (.int .i64 0),.t (.int .i64 0),.t (.int .i64 0),.t (.int .i64 0),.t (.int .i64 0),.t (.int .i64 0)]) (v:=.agg [.t (.int .i64 0),.t (.int .i64 0),.t (.int .i64 0),.nil,.t (.int .i64 0),.t (.int .i64 0),.t (.int .i64 0),.t (.int .i64 0),.t (.int .i64 0),.t (.int .i64 0),.t (.int .i64 0),.t (.int .i64 0),.t (.int .i64 0)]));(case ho=>kernel_rfl);(case h=>kernel_rfl);(case hv=>kernel_rfl))
|((with_reducible apply ae.r7);(case hcal|hav|hx|hh|hm=>exact rfl);(case hcl=>exact yW ⟨0,0,0,[],0,e.a,0,0,0,0,0,e.pl,e.se⟩ mW (by simp) (by simp[mW]));(case hr=>exact rfl))
|exact ah))
|((with_reducible apply aa.u0);(case hx=>first
|((with_reducible apply ae.nG);(case hm|hk|ho=>exact rfl);(case hf=>exact KL J);(case hz=>exact rfl))
|((with_reducible apply ae.qc (cs:=[.t (.int .i64 0),.t (.int .i64 0),.t (.int .i64 0),.nil,.t (.int .i64 0),.t (.int .i64 e.a),.t (.int .i64 e.gk),.t (.int .i64 e.gi),.t (.int .i64 e.ge),.t (.int .i64 e.ga),.t (.int .i64 e.to),.t (.int .i64 e.pl),.t (.int .i64 e.se)]) (v:=.agg [.t (.int .i64 0),.t (.int .i64 0),.t (.int .i64 0),.nil,.t (.int .i64 0),.t (.int .i64 e.a),.t (.int .i64 e.gk),.t (.int .i64 e.gi),.t (.int .i64 e.ge),.t (.int .i64 e.ga),.t (.int .i64 e.to),.t (.int .i64 e.pl),.t (.int .i64 e.se)]));(case ho=>kernel_rfl);(case h=>kernel_rfl);(case hv=>kernel_rfl))
|(exact yd [1] (KI e _ _ _ _ _ _ _ _ hl))
|exact ah))
|fail)
    all_goals(refine aZ (.inr rfl) rfl ?_;clear y u;(try simp only[yX,yY,yZ]at*);rw[dK,G];simp only[*];simp)
   by_cases U:e.k=2
   ·
    repeat'(first
|(with_reducible apply ac.seq)
|((with_reducible apply ac.text);(try case hm=>exact rfl))
|(with_reducible first|apply ac.skip|apply ac.ret|apply az)
|((with_reducible apply ac.aH);(case hc=>exact rfl))
|((with_reducible apply aa.ji (b:=uM _))<;>intro z)
|((with_reducible apply aa.gM (b:=lh _ _))<;>intro z)
|(with_reducible apply aa.ap)
|((with_reducible apply aa.gf);(case hW=>exact rfl))
|((with_reducible apply aa.aD);(case hW=>exact rfl);(case hx=>first
|((with_reducible apply ae.qc (parts:=#[]) (cs:=[.t (.int .i64 0),.t (.int .i64 0),.t (.int .i64 0),.nil,.t (.int .i64 0),.t (.int .i64 0),.t (.int .i64 0),.t (.int .i64 0),.t (.int .i64 0),.t (.int .i64 0),.t (.int .i64 0),.t (.int .i64 0),.t (.int .i64 0)]) (v:=.agg [.t (.int .i64 0),.t (.int .i64 0),.t (.int .i64 0),.nil,.t (.int .i64 0),.t (.int .i64 0),.t (.int .i64 0),.t (.int .i64 0),.t (.int .i64 0),.t (.int .i64 0),.t (.int .i64 0),.t (.int .i64 0),.t (.int .i64 0)]));(case ho=>kernel_rfl);(case h=>kernel_rfl);(case hv=>kernel_rfl))
|((with_reducible apply ae.r7);(case hcal|hav|hx|hh|hm=>exact rfl);(case hcl=>exact yW ⟨0,0,0,[],0,e.a,e.gk,e.gi,e.ge,e.ga,e.to,0,0⟩ mW (by simp) (by simp[mW]));(case hr=>exact rfl))
|exact ah))
|((with_reducible apply aa.u0);(case hx=>first
|((with_reducible apply ae.nG);(case hm|hk|ho=>exact rfl);(case hf=>exact KM U);(case hz=>exact rfl))
|((with_reducible apply ae.qc (cs:=[.t (.int .i64 0),.t (.int .i64 0),.t (.int .i64 0),.nil,.t (.int .i64 0),.t (.int .i64 e.a),.t (.int .i64 e.gk),.t (.int .i64 e.gi),.t (.int .i64 e.ge),.t (.int .i64 e.ga),.t (.int .i64 e.to),.t (.int .i64 e.pl),.t (.int .i64 e.se)]) (v:=.agg [.t (.int .i64 0),.t (.int .i64 0),.t (.int .i64 0),.nil,.t (.int .i64 0),.t (.int .i64 e.a),.t (.int .i64 e.gk),.t (.int .i64 e.gi),.t (.int .i64 e.ge),.t (.int .i64 e.ga),.t (.int .i64 e.to),.t (.int .i64 e.pl),.t (.int .i64 e.se)]));(case ho=>kernel_rfl);(case h=>kernel_rfl);(case hv=>kernel_rfl))
|(exact yd [1] (KH e _ _ _ _ _ _ _ _))
|exact ah))
|fail)
    all_goals(refine aZ (.inr rfl) rfl ?_;clear y u;(try simp only[yX,yY,yZ]at*);rw[dK,G];simp only[*];simp)
   repeat'(first
|(with_reducible apply ac.seq)
|((with_reducible apply ac.text);(try case hm=>exact rfl))
|(with_reducible first|apply ac.ret|apply aV)
|((with_reducible apply ac.aA);(case hc=>exact rfl))
|(with_reducible apply aa.ap)
|((with_reducible apply aa.u0);(case hx=>first
|((with_reducible apply ae.lk);(case hm|hk|ho=>exact rfl);(case hf=>exact KN I J U);(case hz=>exact rfl))
|exact ah))
|fail)
   all_goals(refine aZ (.inr rfl) rfl ?_;clear y u;simp_all[dK])
set_option maxHeartbeats 4000000
def KP(xs:List Int):eu 1 (aG xs)=true:=by simp[eu,aG,mr]
def KQ{xs:List Int}(hl:xs.length<=1000000):Cl ai 77 [.t (ax xs)] [] (.ls 0) [.row false false 1 (aG xs)]:=by
 refine Cl.ext (xs:=[.arr (aG xs)]) (by kernel_rfl) rfl ?_
 have h2:Nat.ble ((aG xs).length*8) 140737488351232=true:=by
  rw[aQ,Nat.ble_eq];omega
 have h3:=KP xs
 have v:jX 1 8 (aG xs)=some (.ls 0,[.row false false 1 (aG xs)]):=by
  unfold jX;rw[h3,h2];rfl
 have u:qF 77 [.arr (aG xs)]=none:=rfl;show nX 77 [.arr (aG xs)]=_
 unfold nX;rw[u];exact v
def jY(l:List (List Int)):(aO l).length=l.length:=by simp[aO]
def KR{a b:List Int}(ha:a.length<=140737488351232)(hb:b.length<=140737488351232):Cl ai 52 [.t (ax a),.t (ax b)] [] (.t (.bool (a==b))) []:=by
 refine Cl.ao rfl Tryz.func52 rfl rfl rfl ?_;by_cases v:a.length=b.length
 ·
  refine ar ?_;refine aC.ind (fun q:Nat=>[(5,.t (.int .i64 (q:Int)))]) (fun q=>q<=a.length/\a.take q=b.take q) (fun q=>a.length - q) 0 rfl (by simp) (fun q z=>?_);obtain⟨h1,h2⟩:=z;rcases Nat.lt_or_ge q a.length with h3|h3
  ·
   obtain⟨n,y⟩:=am h3;obtain⟨m,u⟩:=am (xs:=b) (k:=q) (by omega);have hc:=aU y;have hd:=aU u
   repeat'(first
|(with_reducible first|apply ac.seq|apply ac.block)
|((with_reducible apply ac.text);(try case hm=>exact rfl))
|((with_reducible apply ac.drawn);(case hm=>exact rfl))
|(with_reducible first|apply ac.skip|apply ac.ret|apply az|apply aV|apply bk|apply bq)
|((with_reducible apply ac.aA);(case hc=>exact rfl))
|((with_reducible apply ac.aH);(case hc=>exact rfl))
|((with_reducible apply aa.aE);(case hp=>exact aj))
|((with_reducible apply aa.fP)<;>intro z)
|(with_reducible apply aa.ap)
|((with_reducible apply aa.u0);(case hx=>exact ah))
|fail)
   all_goals first
    |(refine aZ (.inr rfl) rfl ?_)
    |(refine⟨q+1,rfl,rfl,⟨by omega,?_⟩,by omega⟩)
   all_goals first
    |(rw[List.take_add_one,List.take_add_one,h2,y,u];simp_all;done)
    |(symm;rw[beq_eq_false_iff_ne];rintro rfl;rw[y]at u;cases u;omega)
  ·
   rw[List.take_of_length_le h3,List.take_of_length_le (by omega)]at h2
   repeat'(first
|(with_reducible apply ac.seq)
|((with_reducible apply ac.text);(try case hm=>exact rfl))
|(with_reducible first|apply ac.exit|apply ac.ret|apply az|apply cR|apply cS)
|((with_reducible apply ac.aH);(case hc=>exact rfl))
|((with_reducible apply aa.bC);(case hp=>exact aj))
|(with_reducible apply aa.ap)
|((with_reducible apply aa.u0);(case hx=>exact ah))
|fail)
   all_goals(refine aZ (.inr rfl) rfl ?_;rw[h2];simp)
 ·
  refine ar ?_
  all_goals(refine aZ (.inr rfl) rfl ?_;symm;rw[beq_eq_false_iff_ne];rintro rfl;exact v rfl)
end Go.Proofs.YtjolgbkkocjpgaaGreatDoor
