/- Law 39: lists of events turned around. No condition. -/
import Derived.Test.YtjolgbkkocjpgaaGreatDoorTKC
import Derived.Test.YtjolgbkkocjpgaaGreatDoorTRE
set_option linter.defProp false
set_option linter.unusedSimpArgs false
set_option linter.unusedVariables false
set_option linter.unusedSectionVars false
namespace Go.Proofs.YtjolgbkkocjpgaaGreatDoor
open Go.RowKit
set_option maxRecDepth 100000
set_option maxHeartbeats 32000000
def ni(l X:List Ev)(i:Nat):Prop:=X.length=l.length/\∀k,X[k]?=if k <i\/l.length - i<=k then l.reverse[k]? else l[k]?
def ni.start(l:List Ev):ni l l 0:=⟨rfl,fun k=>by
 by_cases h:l.length<=k
 ·rw[if_pos (.inr (by simpa using h)),List.getElem?_eq_none (by simpa using h),List.getElem?_eq_none (by simpa using h)]
 ·rw[if_neg (by omega)]⟩
def ni.done{l X:List Ev}{i:Nat}(h:ni l X i)(hi:l.length<=2*i+1):X=l.reverse:=by
 apply List.ext_getElem?;intro k;rw[h.2 k];split
 ·rfl
 ·rename_i y;have u:i<=k:=by omega
  have v:k <l.length - i:=by omega
  have:k=l.length - 1 - k:=by omega
  rw[List.getElem?_reverse (by omega),<- this]
def ni.step{l X:List Ev}{i:Nat}{a b:Ev}(h:ni l X i)(hi:2*i+1 <l.length)(ha:X[i]?=some a)(hb:X[l.length - 1 - i]?=some b):ni l ((X.set i b).set (l.length - 1 - i) a) (i+1):=by
 refine⟨by simp[h.1],fun k=>?_⟩;have u:=h.2 i;have v:=h.2 (l.length - 1 - i);rw[ha,if_neg (by omega)]at u;rw[hb,if_neg (by omega)]at v;by_cases z:k=l.length - 1 - i
 ·subst z;rw[List.getElem?_set_self (by rw[List.length_set,h.1];omega),if_pos (.inr (by omega)),List.getElem?_reverse (by omega),show l.length - 1 - (l.length - 1 - i)=i by omega,<- u]
 ·rw[List.getElem?_set_ne (fun e=>z e.symm)];by_cases D:k=i
  ·subst D;rw[List.getElem?_set_self (by rw[h.1];omega),if_pos (.inl (by omega)),List.getElem?_reverse (by omega),<- v]
  ·rw[List.getElem?_set_ne (fun e=>D e.symm),h.2 k];by_cases y:k <i\/l.length - i<=k
   ·rw[if_pos y,if_pos (by omega)]
   ·rw[if_neg y];split
    ·rename_i G;omega
    ·rfl
def F5(X:List Ev)(i:Nat)(e:Ev):(bL X).set i (c9 e)=bL (X.set i e):=by unfold bL;rw[List.map_set]
def P9{l:List Ev}(h0:l≠[])(hl:l.length<=1000):Cl ai 25 [.ls 0] [.row false false 13 (bL l)] (.aL []) [.row false false 13 (bL l.reverse)]:=by
 have ab:=nc l;have I:0 <l.length:=List.length_pos_iff.2 h0;refine Cl.ao rfl Tryz.func25 rfl rfl rfl ?_;refine ar ?_;refine aC.cB (fun x:Nat×List Ev=>[(2,.t (.int .i64 (x.1:Int))),(3,.t (.int .i64 ((l.length:Int) - 1 - (x.1:Int))))]) (fun x=>[.row false false 13 (bL x.2)]) (fun x=>ni l x.2 x.1/\2*x.1<=l.length) (fun x=>l.length - x.1) (0,l) (by simp;rfl) rfl ⟨ni.start l,by omega⟩ (fun x hx=>?_);obtain⟨i,X⟩:=x;dsimp only at hx⊢;obtain⟨y,h2⟩:=hx;have ad:=nc X;have z:=y.1;by_cases ag:(i:Int)<(l.length:Int) - 1 - (i:Int)
 ·
  obtain⟨a,ha⟩:=am (xs:=X) (k:=i) (by omega);obtain⟨b,hb⟩:=am (xs:=X) (k:=l.length - 1 - i) (by omega);have D:=y.step (by omega) ha hb;have v:((l.length:Int) - 1 - (i:Int)).toNat=l.length - 1 - i:=by omega
  have J:=qS ha;have U:=qS hb;rw[<- v]at U;have t1:=F5 X i b
  have V:(bL (X.set i b))[((l.length:Int) - 1 - (i:Int)).toNat]?=some [.int .i64 b.r,.int .i64 b.n,.int .i64 b.t,ax b.past,.int .i64 b.k,.int .i64 b.a,.int .i64 b.gk,.int .i64 b.gi,.int .i64 b.ge,.int .i64 b.ga,.int .i64 b.to,.int .i64 b.pl,.int .i64 b.se]:=by
   refine qS ?_;rw[v,List.getElem?_set_ne (by omega)];exact hb
  have G:=F5 (X.set i b) (((l.length:Int) - 1 - (i:Int)).toNat) a;rw[v]at G;rw[<- v]at G;have Z:(bL (X.set i b)).length=l.length:=by rw[nc,List.length_set,z]
  repeat'(first
|(with_reducible first|apply ac.seq|apply ac.block)
|((with_reducible apply ac.text);(try case hm=>exact rfl))
|((with_reducible apply ac.nE);(case hm=>exact rfl))
|(with_reducible first|apply ac.skip|apply az)
|((with_reducible apply ac.aA);(case hc=>exact rfl))
|((with_reducible apply aa.aE);(case hp=>exact aj))
|(with_reducible first|apply aa.ap|apply aB.bj)
|((with_reducible apply aB.u);(case hfl=>kernel_rfl);(case hx=>first
|((with_reducible apply ae.Cc);(case hs=>exact fun _=>rfl);(case ht=>first|(with_reducible exact ei)|exact rfl);(case ha|hy=>exact rfl);(case hone=>kernel_rfl);(case hl|hb=>exact rfl);(case hk=>exact J);(case ho=>exact rfl);(case hv=>exact t1);(case hf=>exact leq))
|((with_reducible apply ae.Cc);(case hs=>exact fun _=>rfl);(case ht=>first|(with_reducible exact ei)|exact rfl);(case ha|hy=>exact rfl);(case hone=>kernel_rfl);(case hl|hb=>exact rfl);(case hk=>exact V);(case ho=>exact rfl);(case hv=>exact G);(case hf=>exact leq))
|exact ah))
|((with_reducible apply aa.u0);(case hx=>exact ah))
|fail)
  exact⟨(i+1,(X.set i b).set (((l.length:Int) - 1 - (i:Int)).toNat) a),by dsimp only;rw[show((l.length:Int) - 1 - ((i+1:Nat):Int))=(l.length:Int) - 1 - (i:Int) - 1 by omega];rfl,rfl,⟨by rw[v];exact D,by dsimp only;omega⟩,by dsimp only;omega⟩
 ·
  rw[y.done (by omega)];refine ar ?_;exact⟨.inl rfl,rfl⟩
end Go.Proofs.YtjolgbkkocjpgaaGreatDoor
