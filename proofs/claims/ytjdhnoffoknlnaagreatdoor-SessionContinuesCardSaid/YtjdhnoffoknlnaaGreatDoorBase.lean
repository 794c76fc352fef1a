/- Words for memory that all texts of this seat share: a slice of one-cell values read as a list,a slice of ints,a slice of slices of ints;small lemmas on lists and endings. No condition. -/
import Derived.Test.YtjdhnoffoknlnaaGreatDoorProg
import Derived.WalkKit
import Derived.WalkSpells
import Derived.WalkLawsBesides
import Derived.Below
import Derived.Laws.OwnMore
import Derived.Deep.AppendLies
import Derived.Deep.Draws
import Derived.Deep.QuietTactic
import Derived.BigQuiet
import Derived.Lib.Hide
import Derived.Laws.MakeOwn
import Derived.Laws.Entries
import Derived.Maps.AppendAt
import Derived.OwnWalk
set_option linter.unusedSimpArgs false
set_option linter.unusedVariables false
set_option linter.unusedSectionVars false
namespace Go.Proofs.YtjdhnoffoknlnaaGreatDoor
open Go.RowKit
theorem lt_of_get {α:Type} {xs:List α} {k:Nat} {n:α} (h:xs[k]?=some n):k < xs.length:=(List.getElem?_eq_some_iff.1 h).1
theorem get_of_lt {α:Type} {xs:List α} {k:Nat} (h:k < xs.length):∃ n,xs[k]?=some n:=⟨xs[k],List.getElem?_eq_getElem h⟩
theorem below_drewN {B:Nat} {a w:World} (h:Below B a w) (n:Nat):Below B a (w.drewN n):=⟨h.os,h.tape,h.output,h.size,h.block⟩
theorem below_drewN_self (B:Nat) (w:World) (n:Nat):Below B w (w.drewN n):=below_drewN (Below.refl _ _) n
def RC (w:World) (A:Option Addr) (cs:List Value):Prop:=
 0 < cs.length→∃ b o,A=some ⟨b,o,none⟩∧b < w.heap.size∧∀ j u,cs[j]?=some u→w.cell? ⟨b,o+j,none⟩=some u
theorem RC.nil (w:World) (A:Option Addr):RC w A []:=fun h=>absurd h (by simp)
theorem RC.below {w w':World} {A:Option Addr} {cs:List Value} (h:RC w A cs) (hb:Below w.heap.size w w'):RC w' A cs:=fun hn=>by
 obtain ⟨b,o,e,hlt,hc⟩:=h hn
 exact ⟨b,o,e,Nat.lt_of_lt_of_le hlt hb.size,fun j u hu=>(hb.cell (p:=⟨b,o+j,none⟩) hlt).trans (hc j u hu)⟩
theorem RC.drewN {w:World} {A:Option Addr} {cs:List Value} (h:RC w A cs) (n:Nat):RC (w.drewN n) A cs:=h
theorem RC.alloc {w:World} {A:Option Addr} {cs:List Value} (h:RC w A cs) (o:Obj):RC (w.alloc o) A cs:=h.below ((Below.refl _ _).alloc (Nat.le_refl _) _)
theorem RC.at_ {w:World} {A:Option Addr} {cs:List Value} {k:Nat} (h:RC w A cs) (hk:k < cs.length):∃ b o u,A=some ⟨b,o,none⟩∧b < w.heap.size∧cs[k]?=some u∧w.cell? ⟨b,o+k,none⟩=some u:=by
 obtain ⟨b,o,e,hlt,hc⟩:=h (by omega)
 exact ⟨b,o,cs[k],e,hlt,List.getElem?_eq_getElem hk,hc k _ (List.getElem?_eq_getElem hk)⟩
theorem RC.of_own {w:World} {base:Nat} {e:TypeId} {size n:Nat} {A:Option Addr} {c:Nat} {cs:List Value} (h:w.ownsRow base e size (.slice A n c) n cs):RC w A cs:=fun hn=>by
 rcases h.2 with ⟨_,rfl⟩|⟨g,cap,cur,hv,_,hg,hnc,_,_,_⟩
 ·have:=h.1;omega
 ·have hA:A=some ⟨g,0,none⟩:=by injection hv
  subst hA
  refine ⟨g,0,rfl,(Array.getElem?_eq_some_iff.1 hg).1,fun j u hu=>?_⟩
  have:=h.cells (g:=g) rfl j u hu
  by_cases hj:j=0
  ·subst hj;simpa [Addr.add] using this
  ·simpa [Addr.add,hj] using this
def RI (w:World) (A:Option Addr) (n:Nat) (xs:List Int):Prop:=xs.length=n∧n≤140737488351232∧RC w A (xs.map (.int .i64))
theorem RI.below {w w':World} {A:Option Addr} {n:Nat} {xs:List Int} (h:RI w A n xs) (hb:Below w.heap.size w w'):RI w' A n xs:=⟨h.1,h.2.1,h.2.2.below hb⟩
theorem RI.drewN {w:World} {A:Option Addr} {n:Nat} {xs:List Int} (h:RI w A n xs) (m:Nat):RI (w.drewN m) A n xs:=h
theorem RI.alloc {w:World} {A:Option Addr} {n:Nat} {xs:List Int} (h:RI w A n xs) (o:Obj):RI (w.alloc o) A n xs:=⟨h.1,h.2.1,h.2.2.alloc o⟩
theorem RI.len {w:World} {A:Option Addr} {n:Nat} {xs:List Int} (h:RI w A n xs):xs.length=n:=h.1
theorem RI.le {w:World} {A:Option Addr} {n:Nat} {xs:List Int} (h:RI w A n xs):n≤140737488351232:=h.2.1
theorem RI.at_ {w:World} {A:Option Addr} {m:Nat} {xs:List Int} {k:Nat} (h:RI w A m xs) (hk:k < m) :
  ∃ b o n,A=some ⟨b,o,none⟩∧xs[k]?=some n∧w.cell? ⟨b,o+k,none⟩=some (.int .i64 n):=by
 obtain ⟨b,o,u,e,_,hu,hc⟩:=h.2.2.at_ (k:=k) (by simpa [h.1] using hk)
 rw [List.getElem?_map] at hu
 cases hx:xs[k]? with
 | none=>rw [hx] at hu;cases hu
 | some n=>rw [hx] at hu;cases hu;exact ⟨b,o,n,e,rfl,hc⟩
theorem RI.blk {w:World} {b o n:Nat} {xs:List Int} (h:RI w (some ⟨b,o,none⟩) n xs) (h0:0 < n):b < w.heap.size:=by
 obtain ⟨b',o',e,hb,_⟩:=h.2.2 (by simpa [h.1] using h0)
 cases e;exact hb
theorem RI.nil (w:World):RI w none 0 []:=⟨rfl,by simp,RC.nil _ _⟩
theorem RI.own {w:World} {base:Nat} {A:Option Addr} {c n:Nat} {xs:List Int} (h:w.ownsRow base 3 1 (.slice A n c) n (xs.map (.int .i64))) (hl:n≤140737488351232):RI w A n xs:=
 ⟨by simpa using h.1,hl,RC.of_own h⟩
theorem RC.lit (w:World) (cs:Array Value) (t:TypeId):RC (w.alloc (.cells cs t)) (some ⟨w.heap.size,0,none⟩) cs.toList:=fun _=>
 ⟨_,0,rfl,by simp,fun j u hu=>by simpa using hu⟩
theorem RI.lit (w:World) (xs:List Int) (n:Nat) (t:TypeId) (cs:Array Value) (h:cs.toList=xs.map (.int .i64)) (hn:xs.length=n) (hl:n≤140737488351232):RI (w.alloc (.cells cs t)) (some ⟨w.heap.size,0,none⟩) n xs:=
 ⟨hn,hl,by rw [← h];exact RC.lit w cs t⟩
def RetI (xs:List Int) (w:World) (e:Ending) (w':World):Prop:=∃ A n c,e=.returned (.slice A n c)∧RI w' A n xs∧Below w.heap.size w w'
theorem RetI.mk {xs:List Int} {w:World} {w':World} {A:Option Addr} {n c:Nat} (h:RI w' A n xs) (hb:Below w.heap.size w w'):RetI xs w (.returned (.slice A n c)) w':=⟨A,n,c,rfl,h,hb⟩
def RL (w:World) (A:Option Addr) (n:Nat) (l:List (List Int)):Prop:=
 l.length=n∧n≤140737488351232∧∃ vs:List Value,RC w A vs∧vs.length=l.length∧∀ (k:Nat) (x:List Int),l[k]?=some x→∃ (B:Option Addr) (m c:Nat),vs[k]?=some (Value.slice B m c)∧RI w B m x
theorem RL.below {w w':World} {A:Option Addr} {n:Nat} {l:List (List Int)} (h:RL w A n l) (hb:Below w.heap.size w w'):RL w' A n l:=by
 obtain ⟨h0,h1,vs,h2,h3,h4⟩:=h
 exact ⟨h0,h1,vs,h2.below hb,h3,fun k x hx=>by obtain ⟨B,m,c,e,hr⟩:=h4 k x hx;exact ⟨B,m,c,e,hr.below hb⟩⟩
theorem RL.drewN {w:World} {A:Option Addr} {n:Nat} {l:List (List Int)} (h:RL w A n l) (m:Nat):RL (w.drewN m) A n l:=h
theorem RL.alloc {w:World} {A:Option Addr} {n:Nat} {l:List (List Int)} (h:RL w A n l) (o:Obj):RL (w.alloc o) A n l:=h.below ((Below.refl _ _).alloc (Nat.le_refl _) _)
theorem RL.len {w:World} {A:Option Addr} {n:Nat} {l:List (List Int)} (h:RL w A n l):l.length=n:=h.1
theorem RL.le {w:World} {A:Option Addr} {n:Nat} {l:List (List Int)} (h:RL w A n l):n≤140737488351232:=h.2.1
theorem RL.at_ {w:World} {A:Option Addr} {n:Nat} {l:List (List Int)} {k:Nat} (h:RL w A n l) (hk:k < n) :
  ∃ b o B m c x,A=some ⟨b,o,none⟩∧l[k]?=some x∧w.cell? ⟨b,o+k,none⟩=some (.slice B m c)∧RI w B m x:=by
 obtain ⟨h0,_,vs,h2,h3,h4⟩:=h
 obtain ⟨b,o,u,e,_,hu,hc⟩:=h2.at_ (k:=k) (by omega)
 obtain ⟨x,hx⟩:=get_of_lt (xs:=l) (k:=k) (by omega)
 obtain ⟨B,m,c,hv,hr⟩:=h4 k x hx
 rw [hu] at hv
 cases hv
 exact ⟨b,o,B,m,c,x,e,hx,hc,hr⟩
theorem RL.blk {w:World} {b o n:Nat} {l:List (List Int)} (h:RL w (some ⟨b,o,none⟩) n l) (h0:0 < n):b < w.heap.size:=by
 obtain ⟨h1,_,vs,h2,h3,_⟩:=h
 obtain ⟨b',o',e,hb,_⟩:=h2 (by omega)
 cases e;exact hb
theorem RL.row {w:World} {b o n:Nat} {l:List (List Int)} {k:Nat} (h:RL w (some ⟨b,o,none⟩) n l) (hk:k < n) :
  ∃ B m c x,l[k]?=some x∧w.cell? ⟨b,o+k,none⟩=some (.slice B m c)∧RI w B m x:=by
 obtain ⟨b',o',B,m,c,x,e,hx,hc,hr⟩:=h.at_ hk
 cases e
 exact ⟨B,m,c,x,hx,hc,hr⟩
theorem RI.elem {w:World} {b o m:Nat} {xs:List Int} {k:Nat} (h:RI w (some ⟨b,o,none⟩) m xs) (hk:k < m):∃ n,xs[k]?=some n∧w.cell? ⟨b,o+k,none⟩=some (.int .i64 n):=by
 obtain ⟨b',o',n,e,hx,hc⟩:=h.at_ hk
 cases e
 exact ⟨n,hx,hc⟩
theorem RL.one {w:World} {A:Option Addr} {n:Nat} {xs:List Int} (c:Nat) (h1:RI w A n xs) (t:TypeId) :
  RL (w.alloc (.cells #[.slice A n c] t)) (some ⟨w.heap.size,0,none⟩) 1 [xs]:=by
 refine ⟨rfl,by simp,_,RC.lit w _ t,rfl,fun k x hx=>?_⟩
 match k,hx with
 | 0,hx=>cases hx;exact ⟨A,n,c,rfl,h1.alloc _⟩
theorem RL.three {w:World} {A B C:Option Addr} {n m p:Nat} {xs ys zs:List Int} (c d e:Nat) (h1:RI w A n xs) (h2:RI w B m ys) (h3:RI w C p zs) (t:TypeId) :
  RL (w.alloc (.cells #[.slice A n c,.slice B m d,.slice C p e] t)) (some ⟨w.heap.size,0,none⟩) 3 [xs,ys,zs]:=by
 refine ⟨rfl,by simp,_,RC.lit w _ t,rfl,fun k x hx=>?_⟩
 match k,hx with
 | 0,hx=>cases hx;exact ⟨A,n,c,rfl,h1.alloc _⟩
 | 1,hx=>cases hx;exact ⟨B,m,d,rfl,h2.alloc _⟩
 | 2,hx=>cases hx;exact ⟨C,p,e,rfl,h3.alloc _⟩
def OI (w:World) (base g cap n:Nat) (xs:List Int):Prop:=
 xs.length=n∧n≤140737488351232∧w.ownsRow base 3 1 (.slice (some ⟨g,0,none⟩) n cap) n (xs.map (.int .i64))
section
variable {w w':World} {base g cap n:Nat} {xs:List Int}
theorem OI.len (h:OI w base g cap n xs):xs.length=n:=h.1
theorem OI.le (h:OI w base g cap n xs):n≤140737488351232:=h.2.1
theorem OI.lt (h:OI w base g cap n xs):base≤g∧g < w.heap.size:=h.2.2.lt g rfl
theorem OI.cell (h:OI w base g cap n xs) {k:Nat} (hk:k < n):∃ x,xs[k]?=some x∧w.cell? ⟨g,k,none⟩=some (.int .i64 x):=by
 obtain ⟨x,hx⟩:=get_of_lt (xs:=xs) (k:=k) (by rw [h.1];exact hk)
 refine ⟨x,hx,?_⟩
 rw [h.2.2.cellAt k (by omega),List.getElem?_map,hx];rfl
theorem OI.frozen (h:OI w base g cap n xs) (k:Nat):w.frozen? ⟨g,k,none⟩=false:=h.2.2.frozenAt k
theorem OI.set (h:OI w base g cap n xs) (k:Nat) (x:Int):OI (w.setCell ⟨g,k,none⟩ (.int .i64 x)) base g cap n (xs.set k x):=
 ⟨by rw [List.length_set];exact h.1,h.2.1,by rw [List.map_set];exact (h.2.2.stored k (.int .i64 x)).1⟩
theorem OI.below (h:OI w base g cap n xs) (hb:Below w.heap.size w w'):OI w' base g cap n xs:=
 ⟨h.1,h.2.1,h.2.2.kept (row:=none) ⟨hb.os,hb.tape,hb.output,hb.size,fun k hk _=>hb.block k hk⟩ (.inr (by simp [Value.ownBlock]))⟩
theorem OI.drewN (h:OI w base g cap n xs) (m:Nat):OI (w.drewN m) base g cap n xs:=h.below (below_drewN_self _ _ _)
theorem OI.mono (h:OI w base g cap n xs) {B:Nat} (hB:B≤base):OI w B g cap n xs:=by
 refine ⟨h.1,h.2.1,h.2.2.1,?_⟩
 rcases h.2.2.2 with ⟨e,_⟩|⟨g',c',cur,e,hb,rest⟩
 ·cases e
 ·exact .inr ⟨g',c',cur,e,Nat.le_trans hB hb,rest⟩
theorem RI.store {A:Option Addr} {m:Nat} {ys:List Int} {B:Nat} {w0:World} (h:RI w0 A m ys) (hb:Below w0.heap.size w0 w) {p:Addr} (hp:w0.heap.size≤p.block) (u:Value):RI (w.setCell p u) A m ys:=
 h.below (hb.setCell hp u)
end
theorem own_below {w w':World} {base:Nat} {e:TypeId} {size:Nat} {v:Value} {n:Nat} {xs:List Value} (h:w.ownsRow base e size v n xs) (hb:Below w.heap.size w w'):w'.ownsRow base e size v n xs:=
 h.kept (row:=none) ⟨hb.os,hb.tape,hb.output,hb.size,fun k hk _=>hb.block k hk⟩ (by cases v.ownBlock <;> simp)
end Go.Proofs.YtjdhnoffoknlnaaGreatDoor
