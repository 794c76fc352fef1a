/- What the reference's plans ask of actions,as contracts. No condition. -/
import Derived.Test.YtjolgbkkocjpgaaGreatDoorRPD
import Derived.Test.YtjolgbkkocjpgaaGreatDoorTP
set_option linter.defProp false
set_option linter.unusedSimpArgs false
set_option linter.unusedVariables false
set_option linter.unusedSectionVars false
namespace Go.Proofs.YtjolgbkkocjpgaaGreatDoor
open Go.RowKit
set_option maxRecDepth 100000
set_option maxHeartbeats 32000000
section
variable {m:Md} {p:Pln} {i k:Int} {L:Lck}
end
set_option maxRecDepth 100000
set_option maxHeartbeats 32000000
theorem qU{m:Md}(h:cm m=true):bH m.ak m.tables=true:=by
 unfold cm at h;simp only[Bool.and_eq_true]at h;exact h.1.1.1
def FI{m:Md}(hv:bH m.ak m.tables=true):bn m.ak true m.tables=((bx m.ak m.tables true).length:Int):=by
 have h:=sk m.ak true m.tables;unfold bx;rw[if_pos hv];exact h.symm
section
variable {m:Md} {p:Pln} {e f k R:Int} {L:Lck}
theorem FJ{s:List Int}{d:List bD}:∀{l:List Tm},(∀t∈l,(qA s d).getD t.cell.toNat 0=s.getD t.cell.toNat 0+eg d t.cell)->∀{b v c:Int},b=v - c->
  l.foldl (fun n t=>n - t.bN*(qA s d).getD t.cell.toNat 0) b=l.foldl (fun n t=>n - t.bN*s.getD t.cell.toNat 0) v - l.foldl (fun n t=>n+t.bN*eg d t.cell) c
 |[],_,b,v,c,h=>h
 |t::l,y,b,v,c,h=>by
  rw[List.foldl_cons,List.foldl_cons,List.foldl_cons];refine FJ (fun u z=>y u (by simp[z])) ?_;rw[y t (by simp),Int.mul_add];omega
def PE{n:Nat}{s:List Int}{d:List bD}{r:Rw}(hd:allI (eV n d) d=true)(hr:cy n r=true)(hn:s.length=n):jr (qA s d) r=jr s r - pj d r:=by
 unfold jr pj;refine FJ (fun t u=>?_) (by omega);have:=(sw (mS hr) u).1;rw[J5 (by omega),show((t.cell.toNat:Nat):Int)=t.cell by omega,Do (J7 hd)]
def iW(sg:Int):List cP->List Int->List Int
 |[],b=>b
 |x::l,b=>iW sg l (if x.k=0 then b.set x.i.toNat (b.getD x.i.toNat 0+sg*x.n)else b)
theorem FK{sg:Int}:∀(a c:List cP) (b:List Int),iW sg (a++c) b=iW sg c (iW sg a b)
 |[],_,_=>rfl
 |x::a,c,b=>FK a c _
theorem zQ{sg:Int}:∀(l:List Lck) (i:Nat) (b:List Int),iW sg (eh m k R i l) b=b
 |[],_,_=>rfl
 |L::l,i,b=>by
  rw[eh];split
  ·rw[iW,if_neg (show¬((1:Int)=0) by decide)];exact zQ l (i+1) b
  ·exact zQ l (i+1) b
def PF{b:List Int}{i j:Nat}{v:Int}(hi:i <b.length):(b.set i v).getD j 0=if j=i then v else b.getD j 0:=by
 rw[List.getD_eq_getElem?_getD,List.getD_eq_getElem?_getD,List.getElem?_set];by_cases h:i=j
 ·subst h;simp[hi]
 ·rw[if_neg h,if_neg fun e=>h e.symm]
theorem zR{sg s:Int}:∀(l:List cn) (i:Nat) (b:List Int),i+l.length<=b.length->(iW sg (bK m k s i l) b).length=b.length/\∀j,(iW sg (bK m k s i l) b).getD j 0=b.getD j 0+(if i<=j/\j <i+l.length then sg*max 0 (s*eY m k (rowOf m (l.getD (j - i) uX)))else 0)
 |[],i,b,_=>⟨rfl,fun j=>by
   have:¬(i<=j/\j <i+([]:List cn).length):=by simp
   rw[if_neg this,Int.add_zero];rfl⟩
 |y::l,i,b,G=>by
  rw[List.length_cons]at G
  have v:∀(u:List Int),u.length=b.length->(∀j,u.getD j 0=b.getD j 0+if j=i then sg*max 0 (s*eY m k (rowOf m y))else 0)->(iW sg (bK m k s (i+1) l) u).length=b.length/\∀j,(iW sg (bK m k s (i+1) l) u).getD j 0=b.getD j 0+(if i<=j/\j <i+(y::l).length then sg*max 0 (s*eY m k (rowOf m ((y::l).getD (j - i) uX)))else 0):=by
   intro u h1 h2;obtain⟨h3,h4⟩:=zR l (i+1) u (by omega);refine⟨h3.trans h1,fun j=>?_⟩;rw[h4,h2,List.length_cons];by_cases z:j=i
   ·subst z;rw[if_pos rfl,if_neg (by omega),if_pos (by omega),Nat.sub_self];simp
   ·rw[if_neg z];by_cases D:i+1<=j/\j <i+1+l.length
    ·rw[if_pos D,if_pos (by omega),show j - i=(j - (i+1))+1 by omega,List.getD_cons_succ];omega
    ·rw[if_neg D,if_neg (by omega)];omega
  rw[bK];split
  ·rename_i I;rw[iW,if_pos rfl];refine v _ (by simp) fun j=>?_;rw[show((i:Int)).toNat=i by omega,PF (by omega)];split
   ·rename_i e;rw[e,show max 0 (s*eY m k (rowOf m y))=s*eY m k (rowOf m y) by omega]
   ·omega
  ·rename_i I;refine v b rfl fun j=>?_;rw[show max 0 (s*eY m k (rowOf m y))=0 by omega];simp
def PG{a b:List Int}(hl:a.length=b.length)(h:∀j,j <a.length->a.getD j 0=b.getD j 0):a=b:=by
 refine List.ext_getElem hl fun j h1 h2=>?_;have:=h j h1;rw[List.getD_eq_getElem?_getD,List.getD_eq_getElem?_getD,List.getElem?_eq_getElem h1,List.getElem?_eq_getElem h2]at this;exact this
def FL{s:List Int}{j:Nat}(h:j <p.aw.length):(ci m p s).getD j 0=jr s (rowOf m (p.aw.getD j uX)):=by
 unfold ci;rw[List.getD_eq_getElem?_getD,List.getElem?_map,getD_some (z:=uX) h];rfl
def la.PH(h:la m p)(hk:b9 m k=true){s:List Int}(hs:s.length=(bx m.ak m.tables true).length):
  iW 1 (bK m k (-1) 0 p.aw) (iW (-1) (cJ m p k R) (ci m p s))=ci m p (qA s (m.ay.getD k.toNat fk).eff.delta):=by
 have v:(ci m p s).length=p.aw.length:=by unfold ci;simp
 unfold cJ;rw[FK,zQ];obtain⟨h1,h2⟩:=zR (m:=m) (k:=k) (sg := -1) (s:=1) p.aw 0 (ci m p s) (by omega);obtain⟨h3,h4⟩:=zR (m:=m) (k:=k) (sg:=1) (s := -1) p.aw 0 (iW (-1) (bK m k 1 0 p.aw) (ci m p s)) (by omega);refine PG (h3.trans (h1.trans (v.trans (List.length_map _).symm))) fun j u=>?_;rw[h3,h1,v]at u;rw[h4,h2,FL u,FL u,if_pos (by omega),if_pos (by omega),Nat.sub_zero,PE (yN h.lc hk) (h.row (List.mem_of_getElem? (getD_some u))) hs];unfold eY;omega
end
set_option maxRecDepth 100000
set_option maxHeartbeats 32000000
end Go.Proofs.YtjolgbkkocjpgaaGreatDoor
