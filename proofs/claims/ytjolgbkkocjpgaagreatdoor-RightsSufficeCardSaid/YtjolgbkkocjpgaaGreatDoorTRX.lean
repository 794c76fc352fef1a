/- Law 39: RightsDivide: the law's function answers true. No condition. -/
import Derived.Test.YtjolgbkkocjpgaaGreatDoorTRT
import Derived.Test.YtjolgbkkocjpgaaGreatDoorTKA
import Derived.Test.YtjolgbkkocjpgaaGreatDoorTRE
set_option linter.all false
namespace Go.Proofs.YtjolgbkkocjpgaaGreatDoor
open Go.RowKit
set_option maxRecDepth 100000
set_option maxHeartbeats 32000000
def KC{m:Md}{l:List Ev}(hm:bo m)(h:iJ m l=true):Small m/\m.ops.length<=8:=by
 obtain⟨h1,h2,h3,_⟩:=zo h;exact⟨⟨hm,h2,h3⟩,h1.2.2.2.1⟩
def Dc{m:Md}{p:Pln}{l:List (List Int)}{E:List Ev}(h:rk m p l E=true):iJ m E=true/\p.ao.length<=20/\l.length<=20/\∀x∈l,x.length<=8:=by
 unfold rk at h;simp only[Bool.and_eq_true,decide_eq_true_eq,List.all_eq_true]at h;obtain⟨h1,h2,_,_,_,h3,h4,_⟩:=h;refine⟨h1,h2,h3,fun x u=>?_⟩;have:=h4 x u;unfold qA at this;rw[Bool.and_eq_true,decide_eq_true_eq]at this;exact this.1
def KB{m:Md}{p:Pln}{l:List (List Int)}{E:List Ev}(hm:bo m)(u:∀a∈m.au,iB a.eff)(hp:ml p)(h:rk m p l E=true):PW m p/\Small m:=by
 obtain⟨v,y⟩:=KC hm (Dc h).1;exact⟨⟨hm,u,by omega,hp⟩,v⟩
def px(l X:List Ev)(i:Nat):Prop:=X.length=l.length/\∀k,X[k]?=if k <i\/l.length - i<=k then l.reverse[k]? else l[k]?
def px.start(l:List Ev):px l l 0:=⟨rfl,fun k=>by
 by_cases h:l.length<=k
 ·rw[if_pos (.inr (by simpa using h)),List.getElem?_eq_none (by simpa using h),List.getElem?_eq_none (by simpa using h)]
 ·rw[if_neg (by omega)]⟩
def px.done{l X:List Ev}{i:Nat}(h:px l X i)(hi:l.length<=2*i+1):X=l.reverse:=by
 apply List.ext_getElem?;intro k;rw[h.2 k];split
 ·rfl
 ·rename_i y;have u:i<=k:=by omega
  have v:k <l.length - i:=by omega
  have:k=l.length - 1 - k:=by omega
  rw[List.getElem?_reverse (by omega),<- this]
def px.step{l X:List Ev}{i:Nat}{a b:Ev}(h:px l X i)(hi:2*i+1 <l.length)(ha:X[i]?=some a)(hb:X[l.length - 1 - i]?=some b):px l ((X.set i b).set (l.length - 1 - i) a) (i+1):=by
 refine⟨by simp[h.1],fun k=>?_⟩;have u:=h.2 i;have v:=h.2 (l.length - 1 - i);rw[ha,if_neg (by omega)]at u;rw[hb,if_neg (by omega)]at v;by_cases z:k=l.length - 1 - i
 ·subst z;rw[List.getElem?_set_self (by rw[List.length_set,h.1];omega),if_pos (.inr (by omega)),List.getElem?_reverse (by omega),show l.length - 1 - (l.length - 1 - i)=i by omega,<- u]
 ·rw[List.getElem?_set_ne (fun e=>z e.symm)];by_cases D:k=i
  ·subst D;rw[List.getElem?_set_self (by rw[h.1];omega),if_pos (.inl (by omega)),List.getElem?_reverse (by omega),<- v]
  ·rw[List.getElem?_set_ne (fun e=>D e.symm),h.2 k];by_cases y:k <i\/l.length - i<=k
   ·rw[if_pos y,if_pos (by omega)]
   ·rw[if_neg y];split
    ·rename_i G;omega
    ·rfl
def Ie{m:Md}{p:Pln}{l:List (List Int)}{e:Ev}(h:(gv m p l e).2=0):(gv m p l e).1=jP m p l e:=by
 unfold gv at h⊢;split
 ·rename_i u;rw[if_pos u]at h;split
  ·exact xr _ _
  ·rename_i v;rw[if_neg v]at h;exact absurd h v
 ·rename_i u;rw[if_neg u]at h;cases h
def Ic{m:Md}{p:Pln}{l:List (List Int)}{e:Ev}(h:(gv m p l e).2≠0):(gv m p l e).1=[]:=by
 unfold gv at h⊢;split
 ·rename_i u;rw[if_pos u]at h;split
  ·rename_i v;rw[if_pos v]at h;exact absurd rfl h
  ·rfl
 ·rfl
def D_{z l:List (List Int)}{a b:Nat}(h:z.map List.length=l.map List.length)(hl:l.length<=a)(hx:∀x∈l,x.length<=b):z.length<=a/\∀x∈z,x.length<=b:=by
 have h1:=congrArg List.length h;rw[List.length_map,List.length_map]at h1;refine⟨by omega,fun x v=>?_⟩;have:x.length∈z.map List.length:=List.mem_map.2 ⟨x,v,rfl⟩;rw[h]at this;obtain⟨y,u,D⟩:=List.mem_map.1 this;have:=hx y u;omega
def Nw{m:Md}{p:Pln}{l:List (List Int)}{E:List Ev}{a b:Nat}(hl:l.length<=a)(hx:∀x∈l,x.length<=b):(lP m p l E).1.length<=a/\∀x∈(lP m p l E).1,x.length<=b:=by
 unfold lP;split
 ·exact D_ (ud m p E l) hl hx
 ·exact⟨Nat.zero_le _,fun x h=>by cases h⟩
end Go.Proofs.YtjolgbkkocjpgaaGreatDoor
