/- Plans: slack behind an action;plans with less. Plain Lean. No condition. -/
import Derived.Test.YtcpgmmlaimkojaaGreatDoorTP
set_option linter.unusedSimpArgs false
set_option linter.unusedVariables false
set_option linter.unusedSectionVars false
namespace Go.Proofs.YtcpgmmlaimkojaaGreatDoor
section
variable {m:Md} {p:Pln} {e f k R:Int} {L:Lck}
theorem slackR_bnd {n:Nat} {s:List Int} {V:Int} (hV:0≤V) (hs:∀ x∈s,-V≤x∧x≤V) {l:List Tm} (ht:allI (termOk n l) l=true) (a:Int):a - 1000 * V * l.length≤l.foldl (fun n t=>n - t.factor * s.getD t.cell.toNat 0) a∧l.foldl (fun n t=>n - t.factor * s.getD t.cell.toNat 0) a≤a+1000 * V * l.length:=
 sumF_bnd (Int.mul_nonneg (by omega) hV) (fun n t h=>by
  have hx : -V≤s.getD t.cell.toNat 0∧s.getD t.cell.toNat 0≤V:=by
   rw [List.getD_eq_getElem?_getD]
   cases hg:s[t.cell.toNat]? with
   | none=>simp;omega
   | some x=>exact hs x (List.mem_of_getElem? hg)
  have:=mul_bnd (A:=1000) (B:=V) (term_of ht h).2 hx
  omega) a
theorem slackF {s:List Int} {d:List Chg}:∀ {l:List Tm},(∀ t∈l,(plusL s d).getD t.cell.toNat 0=s.getD t.cell.toNat 0+addAt d t.cell)→∀ {b b' c:Int},b=b' - c→
  l.foldl (fun n t=>n - t.factor * (plusL s d).getD t.cell.toNat 0) b=l.foldl (fun n t=>n - t.factor * s.getD t.cell.toNat 0) b' - l.foldl (fun n t=>n+t.factor * addAt d t.cell) c
 | [],_,b,b',c,h=>h
 | t::l,ht,b,b',c,h=>by
  rw [List.foldl_cons,List.foldl_cons,List.foldl_cons]
  refine slackF (fun u hu=>ht u (by simp [hu])) ?_
  rw [ht t (by simp),Int.mul_add]
  omega
theorem slack_plus {n:Nat} {s:List Int} {d:List Chg} {r:Rw} (hd:allI (chgOk n d) d=true) (hr:rowB n r=true) (hn:s.length=n):slackR (plusL s d) r=slackR s r - chgR d r:=by
 unfold slackR chgR
 refine slackF (fun t ht=>?_) (by omega)
 have:=(term_of (row_terms hr) ht).1
 rw [plus_at (by omega),show ((t.cell.toNat:Nat):Int)=t.cell by omega,sum_add (chg_rise hd)]
def applyN (sg:Int):List Ned→List Int→List Int
 | [],b=>b
 | x::l,b=>applyN sg l (if x.k=0 then b.set x.i.toNat (b.getD x.i.toNat 0+sg * x.n) else b)
theorem apply_app {sg:Int}:∀ (a c:List Ned) (b:List Int),applyN sg (a++c) b=applyN sg c (applyN sg a b)
 | [],_,_=>rfl
 | x::a,c,b=>apply_app a c _
theorem apply_shrs {sg:Int}:∀ (l:List Lck) (i:Nat) (b:List Int),applyN sg (shrsL m k R i l) b=b
 | [],_,_=>rfl
 | L::l,i,b=>by
  rw [shrsL]
  split
  ·rw [applyN,if_neg (show ¬ ((1:Int)=0) by decide)];exact apply_shrs l (i+1) b
  ·exact apply_shrs l (i+1) b
theorem set_getD {b:List Int} {i j:Nat} {v:Int} (hi:i < b.length):(b.set i v).getD j 0=if j=i then v else b.getD j 0:=by
 rw [List.getD_eq_getElem?_getD,List.getD_eq_getElem?_getD,List.getElem?_set]
 by_cases h:i=j
 ·subst h;simp [hi]
 ·rw [if_neg h,if_neg fun e=>h e.symm]
theorem apply_chgs {sg s:Int}:∀ (l:List Esc) (i:Nat) (b:List Int),i+l.length≤b.length→(applyN sg (chgsL m k s i l) b).length=b.length∧∀ j,(applyN sg (chgsL m k s i l) b).getD j 0=b.getD j 0+(if i≤j∧j < i+l.length then sg * max 0 (s * chgA m k (rowOf m (l.getD (j - i) zEsc))) else 0)
 | [],i,b,_=>⟨rfl,fun j=>by
   have:¬ (i≤j∧j < i+([]:List Esc).length):=by simp
   rw [if_neg this,Int.add_zero];rfl⟩
 | y::l,i,b,hb=>by
  rw [List.length_cons] at hb
  have key:∀ (b':List Int),b'.length=b.length→(∀ j,b'.getD j 0=b.getD j 0+if j=i then sg * max 0 (s * chgA m k (rowOf m y)) else 0)→(applyN sg (chgsL m k s (i+1) l) b').length=b.length∧∀ j,(applyN sg (chgsL m k s (i+1) l) b').getD j 0=b.getD j 0+(if i≤j∧j < i+(y::l).length then sg * max 0 (s * chgA m k (rowOf m ((y::l).getD (j - i) zEsc))) else 0):=by
   intro b' h1 h2
   obtain ⟨h3,h4⟩:=apply_chgs l (i+1) b' (by omega)
   refine ⟨h3.trans h1,fun j=>?_⟩
   rw [h4,h2,List.length_cons]
   by_cases hj:j=i
   ·subst hj
    rw [if_pos rfl,if_neg (by omega),if_pos (by omega),Nat.sub_self]
    simp
   ·rw [if_neg hj]
    by_cases hr:i+1≤j∧j < i+1+l.length
    ·rw [if_pos hr,if_pos (by omega),show j - i=(j - (i+1))+1 by omega,List.getD_cons_succ]
     omega
    ·rw [if_neg hr,if_neg (by omega)]
     omega
  rw [chgsL]
  split
  ·rename_i hp
   rw [applyN,if_pos rfl]
   refine key _ (by simp) fun j=>?_
   rw [show ((i:Int)).toNat=i by omega,set_getD (by omega)]
   split
   ·rename_i e;rw [e,show max 0 (s * chgA m k (rowOf m y))=s * chgA m k (rowOf m y) by omega]
   ·omega
  ·rename_i hp
   refine key b rfl fun j=>?_
   rw [show max 0 (s * chgA m k (rowOf m y))=0 by omega]
   simp
theorem list_getD {a b:List Int} (hl:a.length=b.length) (h:∀ j,j < a.length→a.getD j 0=b.getD j 0):a=b:=by
 refine List.ext_getElem hl fun j h1 h2=>?_
 have:=h j h1
 rw [List.getD_eq_getElem?_getD,List.getD_eq_getElem?_getD,List.getElem?_eq_getElem h1,List.getElem?_eq_getElem h2] at this
 exact this
theorem slack_at {s:List Int} {j:Nat} (h:j < p.esc.length):(slackL m p s).getD j 0=slackR s (rowOf m (p.esc.getD j zEsc)):=by
 unfold slackL
 rw [List.getD_eq_getElem?_getD,List.getElem?_map,getD_some (z:=zEsc) h]
 rfl
theorem PlanOk.slack (h:PlanOk m p) (hk:inActs m k=true) {s:List Int} (hs:s.length=(rngs m.sorts m.tables true).length) :
  applyN 1 (chgsL m k (-1) 0 p.esc) (applyN (-1) (needsL m p k R) (slackL m p s))=slackL m p (plusL s (m.acts.getD k.toNat zActn).eff.delta):=by
 have hl:(slackL m p s).length=p.esc.length:=by unfold slackL;simp
 unfold needsL
 rw [apply_app,apply_shrs]
 obtain ⟨h1,h2⟩:=apply_chgs (m:=m) (k:=k) (sg := -1) (s:=1) p.esc 0 (slackL m p s) (by omega)
 obtain ⟨h3,h4⟩:=apply_chgs (m:=m) (k:=k) (sg:=1) (s := -1) p.esc 0 (applyN (-1) (chgsL m k 1 0 p.esc) (slackL m p s)) (by omega)
 refine list_getD (h3.trans (h1.trans (hl.trans (List.length_map _).symm))) fun j hj=>?_
 rw [h3,h1,hl] at hj
 rw [h4,h2,slack_at hj,slack_at hj,if_pos (by omega),if_pos (by omega),Nat.sub_zero,slack_plus (delta_ok h.model hk) (h.row (List.mem_of_getElem? (getD_some hj))) hs]
 unfold chgA
 omega
end
end Go.Proofs.YtcpgmmlaimkojaaGreatDoor
