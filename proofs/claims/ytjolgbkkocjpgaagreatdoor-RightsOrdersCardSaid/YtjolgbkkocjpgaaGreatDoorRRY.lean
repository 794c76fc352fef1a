/- Law 39: RightsOrders: the order of events does not matter;the law's function answers true. No condition. -/
import Derived.Test.YtjolgbkkocjpgaaGreatDoorRRX
import Derived.Test.YtjolgbkkocjpgaaGreatDoorRVR
set_option linter.defProp false
set_option linter.unusedSimpArgs false
set_option linter.unusedVariables false
set_option linter.unusedSectionVars false
namespace Go.Proofs.YtjolgbkkocjpgaaGreatDoor
open Go.RowKit
set_option maxRecDepth 100000
set_option maxHeartbeats 32000000
def F6{α:Type}(l:List α)(i:Nat)(f:α->α)(d:α):l.set i (f (l.getD i d))=l.modify i f:=by
 apply List.ext_getElem?;intro j;rw[List.getElem?_modify];by_cases h:i=j
 ·subst h;rcases Nat.lt_or_ge i l.length with u|u
  ·rw[List.getElem?_set_self u,List.getD_eq_getElem?_getD,List.getElem?_eq_getElem u];simp
  ·rw[List.getElem?_eq_none (by simpa using u),List.getElem?_eq_none u];rfl
 ·rw[List.getElem?_set_ne h];cases l[j]? <;>simp[h]
def F7{α:Type}(l:List α)(i j:Nat)(f g:α->α)(h:i=j->∀a,f (g a)=g (f a)):(l.modify i f).modify j g=(l.modify j g).modify i f:=by
 apply List.ext_getElem?;intro k;rw[List.getElem?_modify,List.getElem?_modify,List.getElem?_modify,List.getElem?_modify]
 cases l[k]? with
 |none=>rfl
 |some a=>
  by_cases h1:i=k
  ·by_cases h2:j=k
   ·have:=h (h1.trans h2.symm) a;simp[h1,h2,this]
   ·simp[h1,h2]
  ·by_cases h2:j=k
   ·simp[h1,h2]
   ·simp[h1,h2]
theorem z6{α β:Type}(f:β->α->β)(hc:∀z x y,f (f z x) y=f (f z y) x):∀(l:List α) (z:β) (x:α),l.foldl f (f z x)=f (l.foldl f z) x
 |[],_,_=>rfl
 |y::l,z,x=>by
  show l.foldl f (f (f z x) y)=f (l.foldl f (f z y)) x
  rw[hc z x y,z6 f hc l (f z y) x]
theorem foldl_rev{α β:Type}(f:β->α->β)(hc:∀z x y,f (f z x) y=f (f z y) x):∀(l:List α) (z:β),l.reverse.foldl f z=l.foldl f z
 |[],_=>rfl
 |x::l,z=>by
  rw[List.reverse_cons,List.foldl_append,foldl_rev f hc l z];exact(z6 f hc l z x).symm
theorem F8{α β:Type}(f:β->α->β)(hc:∀z x y,f (f z x) y=f (f z y) x):∀(k l:List α) (z:β),l.foldl f (k.foldl f z)=k.foldl f (l.foldl f z)
 |[],_,_=>rfl
 |x::k,l,z=>by
  show l.foldl f (k.foldl f (f z x))=k.foldl f (f (l.foldl f z) x)
  rw[F8 f hc k l (f z x),z6 f hc l z x]
def P_(n a b:Int):IntKind.i64.wrap (IntKind.i64.wrap (n+a)+b)=IntKind.i64.wrap (IntKind.i64.wrap (n+b)+a):=by
 rw[IntKind.wrap_i64,IntKind.wrap_i64,IntKind.wrap_i64,IntKind.wrap_i64];omega
def wq(z:List (List Int))(s:dF):cH z s=z.modify s.i fun x=>x.modify s.r fun n=>IntKind.i64.wrap (n+s.a):=by
 have h1:=F6 z s.i (fun x=>x.modify s.r fun n=>IntKind.i64.wrap (n+s.a)) [];rw[<- h1];have h2:=F6 (z.getD s.i []) s.r (fun n=>IntKind.i64.wrap (n+s.a)) 0;rw[<- h2];rfl
def Qa(z:List (List Int))(s t:dF):cH (cH z s) t=cH (cH z t) s:=by
 rw[wq,wq,wq z t,wq _ s];refine F7 z s.i t.i _ _ fun _ x=>F7 x t.r s.r _ _ fun _ n=>?_;exact P_ n s.a t.a
def Qb(m:Md)(p:Pln)(z:List (List Int))(x y:Ev):fW m p (fW m p z x) y=fW m p (fW m p z y) x:=by
 unfold fW;exact F8 cH Qa _ _ z
def all_reverse'{α:Type}(l:List α)(f:α->Bool):l.reverse.all f=l.all f:=by simp
def Qc(m:Md)(p:Pln)(l:List (List Int))(E:List Ev):gC m p l E.reverse=gC m p l E:=by
 unfold gC;rw[all_reverse',foldl_rev _ (Qb m p)]
def Qd{m:Md}{p:Pln}{l:List (List Int)}{E:List Ev}(h:(gC m p l E).2=0):(gC m p l E).1=E.foldl (fW m p) l:=by
 unfold gC at h⊢;split
 ·rfl
 ·rename_i u;rw[if_neg u]at h;cases h
def Qe(m:Md)(p:Pln)(l:List (List Int))(E:List Ev):(gC m p l E).2=0\/(gC m p l E).2=1:=by
 unfold gC;split
 ·exact .inl rfl
 ·exact .inr rfl
def Qf{m:Md}{p:Pln}{l:List (List Int)}{e:Ev}(h:(lB m p l e).2=0):(lB m p l e).1=fW m p l e:=by
 unfold lB at h⊢;split
 ·rename_i u;rw[if_pos u]at h;split
  ·exact FQ _ _
  ·rename_i v;rw[if_neg v]at h;exact absurd h v
 ·rename_i u;rw[if_neg u]at h;cases h
def Qg{m:Md}{p:Pln}{l:List (List Int)}{e:Ev}(h:(lB m p l e).2≠0):(lB m p l e).1=[]:=by
 unfold lB at h⊢;split
 ·rename_i u;rw[if_pos u]at h;split
  ·rename_i v;rw[if_pos v]at h;exact absurd rfl h
  ·rfl
 ·rfl
def z7{z l:List (List Int)}{a b:Nat}(h:z.map List.length=l.map List.length)(hl:l.length<=a)(hx:∀x∈l,x.length<=b):z.length<=a/\∀x∈z,x.length<=b:=by
 have h1:=congrArg List.length h;rw[List.length_map,List.length_map]at h1;refine⟨by omega,fun x v=>?_⟩;have:x.length∈z.map List.length:=List.mem_map.2 ⟨x,v,rfl⟩;rw[h]at this;obtain⟨y,u,D⟩:=List.mem_map.1 this;have:=hx y u;omega
def Qh{m:Md}{p:Pln}{l:List (List Int)}{E:List Ev}{a b:Nat}(hl:l.length<=a)(hx:∀x∈l,x.length<=b):(gC m p l E).1.length<=a/\∀x∈(gC m p l E).1,x.length<=b:=by
 unfold gC;split
 ·exact z7 (we m p E l) hl hx
 ·exact⟨Nat.zero_le _,fun x h=>by cases h⟩
def Qi{l:List Ev}(hl:l.length<=1000):Cl ai 25 [.ls 0] [.row false false 13 (bL l)] (.aL []) [.row false false 13 (bL l.reverse)]:=by
 by_cases v:l=[]
 ·
  subst v;have u:(bL []).length=0:=rfl;show Cl ai 25 [.ls 0] [.row false false 13 (bL [])] (.aL []) [.row false false 13 (bL [])]
  generalize bL []=X at u⊢;refine Cl.ao rfl Tryz.func25 rfl rfl rfl ?_;refine ar ?_;refine aC.ind (fun q:Nat=>[(2,.t (.int .i64 (q:Int))),(3,.t (.int .i64 ((X.length:Int) - 1)))]) (fun q=>q=0) (fun q=>0) 0 rfl rfl (fun q y=>?_);subst y;refine ar ?_;exact⟨.inl rfl,rfl⟩
 ·exact P9 v hl
def Qj{m:Md}{p:Pln}{l:List (List Int)}{E:List Ev}(hm:bt m)(hp:n9 p)(hl:l.length<=17592186044416)(hx:∀x∈l,x.length<=17592186044416)(hE:E.length<=17592186044416)(he:∀e∈E,e.past.length<=17592186044416):Cl ai 6 [.t (bz m),.t (ba p),.t (.arr (aO l)),.t (.arr (bL E))] [] (.t (.bool true)) []:=by
 have Z:=hm.eff;have k0:=F2;have u:=F0 (p:=p) hm Z hp (l:=l) (E:=E) (by omega) (fun x h=>by have:=hx x h;omega) (by omega) (fun e h=>by have:=he e h;omega);have aI:=nc E
 cases G:pE m p l E with
 |false=>
  rw[G]at u;unfold ba at u⊢;rw[aW]at u⊢;rw[bX]at u⊢;refine Cl.ao rfl Tryz.func6 rfl rfl rfl ?_;exact af
 |true=>
  rw[G]at u;by_cases ay:E.length<=30
  ·
   obtain⟨hW,hS⟩:=F3 hm Z hp G;obtain⟨al,hf,v,y⟩:=zY G;have U:∀e∈E,e.past.length<=8:=(FH al).2.2.2.1;have ko:=FR (l:=l) (E:=E) hW (by omega) (by omega) (fun x h=>by have:=y x h;omega) (by omega) (fun e h=>by have:=U e h;omega);have kb:=FR (l:=l) (E:=E.reverse) hW (by omega) (by omega) (fun x h=>by have:=y x h;omega) (by rw[List.length_reverse];omega) (fun e h=>by have:=U e (List.mem_reverse.1 h);omega);rw[Qc]at kb;have kc:=NO (l:=E) (by omega);have kr:=Qi (l:=E) (by omega);obtain⟨aw,ad⟩:=Qh (m:=m) (p:=p) (E:=E) v y;have an:=Qd (m:=m) (p:=p) (l:=l) (E:=E);have ak:=Qe m p l E;have ks:=zU (A:=(gC m p l E).1) (by omega) (fun x h=>by have:=ad x h;omega);have D:=fun(z:List (List Int)) (e:Ev) (hz:z.map List.length=l.map List.length) (hm:e∈E)=>FO (l:=z) (e:=e) hW (by omega) (by have:=(z7 hz v y).1;omega) (fun x h=>by have:=(z7 hz v y).2 x h;omega) (by have:=U e hm;omega);generalize gC m p l E=S at*
   obtain⟨A,c⟩:=S;dsimp only at*
   unfold ba at u ko kb D⊢;rw[aW]at u ko kb D⊢;rw[bX]at u ko kb D⊢;refine Cl.ao rfl Tryz.func6 rfl rfl rfl ?_
   repeat'(first
|(with_reducible first|apply ac.seq|apply ac.block)
|((with_reducible apply ac.text);(try case hm=>exact rfl))
|(with_reducible first|apply ac.skip|apply az)
|((with_reducible apply ac.aH);(case hc=>exact rfl))
|((with_reducible apply aa.dS);(case hp=>exact aj))
|((with_reducible apply aa.cA);(case hp=>exact aj))
|(with_reducible apply aa.ap)
|((with_reducible apply aa.aD);(case hW=>exact rfl);(case hx=>first
|(exact aq ks)
|exact ah))
|((with_reducible apply aa.u0);(case hx=>first
|((with_reducible apply ae.PU);(case hcal|hav|hx|hh|hm=>exact rfl);(case hcl=>exact kb);(case hd|hf'|hn=>exact rfl);(case hf=>exact leq))
|(exact aq k0)
|(exact aq u)
|(exact qf ko)
|(exact mJ kc)
|(exact gp [2] kr)
|exact ah))
|fail)
   apply ac.kQ
   case ho=>exact rfl
   case hp=>exact rfl
   case hl=>exact rfl
   case hs=>exact slt
   refine aC.ind (fun x:List (List Int)×Nat=>[(14,.t (.arr (aO x.1))),(64,.t (.int .i64 (x.2:Int)))]) (fun x=>x.2<=E.length/\x.1=(E.take x.2).foldl (fW m p) l) (fun x=>E.length - x.2) (l,0) rfl ⟨by dsimp only;omega,rfl⟩ (fun x hq=>?_);obtain⟨z,q⟩:=x;dsimp only at hq⊢;obtain⟨h1,h2⟩:=hq;rcases Nat.lt_or_ge q E.length with h3|h3
   ·
    obtain⟨e,V⟩:=am h3;have ab:=List.mem_of_getElem? V;have hc:(bL E)[q]?=some (c9 e):=by unfold bL;rw[List.getElem?_map,V];rfl
    have hz:z.map List.length=l.map List.length:=by rw[h2];exact we m p _ l
    have D:=D z e hz ab;have au:fW m p z e=(E.take (q+1)).foldl (fW m p) l:=by rw[List.take_add_one,List.foldl_append,<- h2,V];rfl
    have J:=Qf (m:=m) (p:=p) (l:=z) (e:=e);have I:=Qg (m:=m) (p:=p) (l:=z) (e:=e);generalize lB m p z e=W at D J I;obtain⟨B,g⟩:=W;dsimp only at D J I;unfold cV c9 at D;unfold c9 at hc;by_cases hg:g=0
    ·
     subst hg;have hB:=(J rfl).trans au;subst hB;refine ar ?_;exact⟨((E.take (q+1)).foldl (fW m p) l,q+1),rfl,rfl,⟨by dsimp only;omega,rfl⟩,by dsimp only;omega⟩
    ·
     have hB:=I hg;subst hB;have e1:(.arr (aO []):AV)=.arr []:=rfl;rw[e1]at D
     repeat'(first
|(with_reducible first|apply ac.seq|apply ac.block)
|((with_reducible apply ac.text);(try case hm=>exact rfl))
|(with_reducible first|apply ac.skip|apply ac.ret|apply az|apply aV|apply bq)
|((with_reducible apply ac.aA);(case hc=>exact rfl))
|((with_reducible apply aa.aE);(case hp=>exact aj))
|((with_reducible apply aa.bc)<;>intro hq)
|((with_reducible apply aa.gN);(case hp=>exact aj))
|(with_reducible apply aa.ap)
|((with_reducible apply aa.u0);(case hx=>first
|(exact qf D)
|exact ah))
|fail)
     all_goals first|(exfalso;exact hq rfl)|(exfalso;rename_i hh;exact hh rfl)|exact⟨.inr rfl,rfl⟩
   ·
    rw[List.take_of_length_le h3]at h2;rcases ak with rfl|rfl
    ·
     have ag:A=z:=(an rfl).trans h2.symm;subst ag;exact af
    ·
     exact af
  ·
   unfold ba at u⊢;rw[aW]at u⊢;rw[bX]at u⊢;refine Cl.ao rfl Tryz.func6 rfl rfl rfl ?_;exact af
end Go.Proofs.YtjolgbkkocjpgaaGreatDoor
