/- What the reference's plans ask of actions,as contracts. No condition. -/
import Derived.Test.YtcgdbhlnkificaaGreatDoorRPD
import Derived.Test.YtcgdbhlnkificaaGreatDoorTP
set_option linter.all false
namespace Go.Proofs.YtcgdbhlnkificaaGreatDoor
open Go.RowKit
set_option maxRecDepth 100000
set_option maxHeartbeats 32000000
section
variable {m:Md} {p:Pln} {i k:Int} {L:Lck}
end
set_option maxRecDepth 100000
set_option maxHeartbeats 32000000
theorem za{m:Md}(h:b6 m=true):bJ m.ao m.tables=true:=by
 unfold b6 at h;simp only[Bool.and_eq_true]at h;exact h.1.1.1
section
variable {m:Md} {p:Pln} {e f k R:Int} {L:Lck}
theorem FY{s:List Int}{d:List bP}:∀{l:List Tm},(∀t∈l,(rB s d).getD t.cell.toNat 0=s.getD t.cell.toNat 0+eh d t.cell)->∀{b v c:Int},b=v - c->
  l.foldl (fun n t=>n - t.bZ*(rB s d).getD t.cell.toNat 0) b=l.foldl (fun n t=>n - t.bZ*s.getD t.cell.toNat 0) v - l.foldl (fun n t=>n+t.bZ*eh d t.cell) c
 |[],_,b,v,c,h=>h
 |t::l,y,b,v,c,h=>by
  rw[List.foldl_cons,List.foldl_cons,List.foldl_cons];refine FY (fun u z=>y u (by simp[z])) ?_;rw[y t (by simp),Int.mul_add];omega
def Ph{n:Nat}{s:List Int}{d:List bP}{r:Rw}(hd:allI (eX n d) d=true)(hr:cI n r=true)(hn:s.length=n):tP (rB s d) r=tP s r - pg d r:=by
 unfold tP pg;refine FY (fun t u=>?_) (by omega);have:=(AC (v_ hr) u).1;rw[MJ (by omega),show((t.cell.toNat:Nat):Int)=t.cell by omega,Gi (H2 hd)]
def iU(sg:Int):List cz->List Int->List Int
 |[],b=>b
 |x::l,b=>iU sg l (if x.k=0 then b.set x.i.toNat (b.getD x.i.toNat 0+sg*x.n)else b)
theorem Ba{sg:Int}:∀(a c:List cz) (b:List Int),iU sg (a++c) b=iU sg c (iU sg a b)
 |[],_,_=>rfl
 |x::a,c,b=>Ba a c _
theorem xq{sg:Int}:∀(l:List Lck) (i:Nat) (b:List Int),iU sg (pK m k R i l) b=b
 |[],_,_=>rfl
 |L::l,i,b=>by
  rw[pK];split
  ·rw[iU,if_neg (show¬((1:Int)=0) by decide)];exact xq l (i+1) b
  ·exact xq l (i+1) b
def Ov{b:List Int}{i j:Nat}{v:Int}(hi:i <b.length):(b.set i v).getD j 0=if j=i then v else b.getD j 0:=by
 rw[List.getD_eq_getElem?_getD,List.getD_eq_getElem?_getD,List.getElem?_set];by_cases h:i=j
 ·subst h;simp[hi]
 ·rw[if_neg h,if_neg fun e=>h e.symm]
theorem xp{sg s:Int}:∀(l:List bM) (i:Nat) (b:List Int),i+l.length<=b.length->(iU sg (cZ m k s i l) b).length=b.length/\∀j,(iU sg (cZ m k s i l) b).getD j 0=b.getD j 0+(if i<=j/\j <i+l.length then sg*max 0 (s*eW m k (rowOf m (l.getD (j - i) xc)))else 0)
 |[],i,b,_=>⟨rfl,fun j=>by
   have:¬(i<=j/\j <i+([]:List bM).length):=by simp
   rw[if_neg this,Int.add_zero];rfl⟩
 |y::l,i,b,G=>by
  rw[List.length_cons]at G
  have v:∀(u:List Int),u.length=b.length->(∀j,u.getD j 0=b.getD j 0+if j=i then sg*max 0 (s*eW m k (rowOf m y))else 0)->(iU sg (cZ m k s (i+1) l) u).length=b.length/\∀j,(iU sg (cZ m k s (i+1) l) u).getD j 0=b.getD j 0+(if i<=j/\j <i+(y::l).length then sg*max 0 (s*eW m k (rowOf m ((y::l).getD (j - i) xc)))else 0):=by
   intro u h1 h2;obtain⟨h3,h4⟩:=xp l (i+1) u (by omega);refine⟨h3.trans h1,fun j=>?_⟩;rw[h4,h2,List.length_cons];by_cases z:j=i
   ·subst z;rw[if_pos rfl,if_neg (by omega),if_pos (by omega),Nat.sub_self];simp
   ·rw[if_neg z];by_cases D:i+1<=j/\j <i+1+l.length
    ·rw[if_pos D,if_pos (by omega),show j - i=(j - (i+1))+1 by omega,List.getD_cons_succ];omega
    ·rw[if_neg D,if_neg (by omega)];omega
  rw[cZ];split
  ·rename_i I;rw[iU,if_pos rfl];refine v _ (by simp) fun j=>?_;rw[show((i:Int)).toNat=i by omega,Ov (by omega)];split
   ·rename_i e;rw[e,show max 0 (s*eW m k (rowOf m y))=s*eW m k (rowOf m y) by omega]
   ·omega
  ·rename_i I;refine v b rfl fun j=>?_;rw[show max 0 (s*eW m k (rowOf m y))=0 by omega];simp
def K5{a b:List Int}(hl:a.length=b.length)(h:∀j,j <a.length->a.getD j 0=b.getD j 0):a=b:=by
 refine List.ext_getElem hl fun j h1 h2=>?_;have:=h j h1;rw[List.getD_eq_getElem?_getD,List.getD_eq_getElem?_getD,List.getElem?_eq_getElem h1,List.getElem?_eq_getElem h2]at this;exact this
def FZ{s:List Int}{j:Nat}(h:j <p.aM.length):(oN m p s).getD j 0=tP s (rowOf m (p.aM.getD j xc)):=by
 unfold oN;rw[List.getD_eq_getElem?_getD,List.getElem?_map,getD_some (z:=xc) h];rfl
def la.Pg(h:la m p)(hk:b9 m k=true){s:List Int}(hs:s.length=(bW m.ao m.tables true).length):
  iU 1 (cZ m k (-1) 0 p.aM) (iU (-1) (dS m p k R) (oN m p s))=oN m p (rB s (m.ax.getD k.toNat fD).eff.delta):=by
 have v:(oN m p s).length=p.aM.length:=by unfold oN;simp
 unfold dS;rw[Ba,xq];obtain⟨h1,h2⟩:=xp (m:=m) (k:=k) (sg := -1) (s:=1) p.aM 0 (oN m p s) (by omega);obtain⟨h3,h4⟩:=xp (m:=m) (k:=k) (sg:=1) (s := -1) p.aM 0 (iU (-1) (cZ m k 1 0 p.aM) (oN m p s)) (by omega);refine K5 (h3.trans (h1.trans (v.trans (List.length_map _).symm))) fun j u=>?_;rw[h3,h1,v]at u;rw[h4,h2,FZ u,FZ u,if_pos (by omega),if_pos (by omega),Nat.sub_zero,Ph (xL h.lH hk) (h.row (List.mem_of_getElem? (getD_some u))) hs];unfold eW;omega
end
set_option maxRecDepth 100000
set_option maxHeartbeats 32000000
end Go.Proofs.YtcgdbhlnkificaaGreatDoor
