/- Words for memory that all texts of this seat share: a. No condition. -/
import Derived.Test.YtgbfedgghjcdcaaGreatDoorProg
import Derived.WalkKit
import Derived.WalkSpells
import Derived.WalkLawsBesides
import Derived.Below
import Derived.Laws.OwnMore
import Derived.Deep.AppendLies
import Derived.Deep.Draws
import Derived.Deep.QuietTactic
import Derived.BigQuiet
import Derived.Lib.Hide
import Derived.Laws.MakeOwn
import Derived.Laws.Entries
import Derived.Maps.AppendAt
import Derived.OwnWalk
set_option linter.all false
namespace Go.Proofs.YtgbfedgghjcdcaaGreatDoor
open Go.RowKit
theorem aC{α:Type}{xs:List α}{k:Nat}{n:α}(h:xs[k]?=some n):k <xs.length:=(List.getElem?_eq_some_iff.1 h).1
theorem av{α:Type}{xs:List α}{k:Nat}(h:k <xs.length):∃n,xs[k]?=some n:=⟨xs[k],List.getElem?_eq_getElem h⟩
def below_drewN{B:Nat}{a w:World}(h:Below B a w)(n:Nat):Below B a (w.drewN n):=⟨h.os,h.tape,h.output,h.size,h.block⟩
def BD(B:Nat)(w:World)(n:Nat):Below B w (w.drewN n):=below_drewN (Below.refl _ _) n
def RC(w:World)(A:Option Addr)(cs:List Value):Prop:=
 0 <cs.length->∃b o,A=some ⟨b,o,none⟩/\b <w.heap.size/\∀j u,cs[j]?=some u->w.cell? ⟨b,o+j,none⟩=some u
def RC.nil(w:World)(A:Option Addr):RC w A []:=fun h=>absurd h (by simp)
def RC.below{w w':World}{A:Option Addr}{cs:List Value}(h:RC w A cs)(hb:Below w.heap.size w w'):RC w' A cs:=fun z=>by
 obtain⟨b,o,e,v,y⟩:=h z;exact⟨b,o,e,Nat.lt_of_lt_of_le v hb.size,fun j u D=>(hb.cell (p:=⟨b,o+j,none⟩) v).trans (y j u D)⟩
theorem RC.drewN{w:World}{A:Option Addr}{cs:List Value}(h:RC w A cs)(n:Nat):RC (w.drewN n) A cs:=h
theorem RC.alloc{w:World}{A:Option Addr}{cs:List Value}(h:RC w A cs)(o:Obj):RC (w.alloc o) A cs:=h.below ((Below.refl _ _).alloc (Nat.le_refl _) _)
def RC.at_{w:World}{A:Option Addr}{cs:List Value}{k:Nat}(h:RC w A cs)(hk:k <cs.length):∃b o u,A=some ⟨b,o,none⟩/\b <w.heap.size/\cs[k]?=some u/\w.cell? ⟨b,o+k,none⟩=some u:=by
 obtain⟨b,o,e,v,y⟩:=h (by omega);exact⟨b,o,cs[k],e,v,List.getElem?_eq_getElem hk,y k _ (List.getElem?_eq_getElem hk)⟩
def RC.FH{w:World}{base:Nat}{e:TypeId}{size n:Nat}{A:Option Addr}{c:Nat}{cs:List Value}(h:w.ownsRow base e size (.slice A n c) n cs):RC w A cs:=fun O=>by
 rcases h.2 with⟨_,rfl⟩|⟨g,cap,y,J,_,D,G,_,_,_⟩
 ·have:=h.1;omega
 ·have z:A=some ⟨g,0,none⟩:=by injection J
  subst z;refine⟨g,0,rfl,(Array.getElem?_eq_some_iff.1 D).1,fun j u I=>?_⟩;have:=h.cells (g:=g) rfl j u I;by_cases v:j=0
  ·subst v;simpa[Addr.add]using this
  ·simpa[Addr.add,v]using this
def RI(w:World)(A:Option Addr)(n:Nat)(xs:List Int):Prop:=xs.length=n/\n<=140737488351232/\RC w A (xs.map (.int .i64))
theorem RI.below{w w':World}{A:Option Addr}{n:Nat}{xs:List Int}(h:RI w A n xs)(hb:Below w.heap.size w w'):RI w' A n xs:=⟨h.1,h.2.1,h.2.2.below hb⟩
theorem RI.drewN{w:World}{A:Option Addr}{n:Nat}{xs:List Int}(h:RI w A n xs)(m:Nat):RI (w.drewN m) A n xs:=h
theorem RI.alloc{w:World}{A:Option Addr}{n:Nat}{xs:List Int}(h:RI w A n xs)(o:Obj):RI (w.alloc o) A n xs:=⟨h.1,h.2.1,h.2.2.alloc o⟩
def RI.len{w:World}{A:Option Addr}{n:Nat}{xs:List Int}(h:RI w A n xs):xs.length=n:=h.1
def RI.le{w:World}{A:Option Addr}{n:Nat}{xs:List Int}(h:RI w A n xs):n<=140737488351232:=h.2.1
theorem RI.at_{w:World}{A:Option Addr}{m:Nat}{xs:List Int}{k:Nat}(h:RI w A m xs)(hk:k <m):
  ∃b o n,A=some ⟨b,o,none⟩/\xs[k]?=some n/\w.cell? ⟨b,o+k,none⟩=some (.int .i64 n):=by
 obtain⟨b,o,u,e,_,v,z⟩:=h.2.2.at_ (k:=k) (by simpa[h.1]using hk);rw[List.getElem?_map]at v
 cases y:xs[k]? with
 |none=>rw[y]at v;cases v
 |some n=>rw[y]at v;cases v;exact⟨b,o,n,e,rfl,z⟩
def RI.blk{w:World}{b o n:Nat}{xs:List Int}(h:RI w (some ⟨b,o,none⟩) n xs)(h0:0 <n):b <w.heap.size:=by
 obtain⟨v,y,e,u,_⟩:=h.2.2 (by simpa[h.1]using h0);cases e;exact u
theorem RI.nil(w:World):RI w none 0 []:=⟨rfl,by simp,RC.nil _ _⟩
def RI.own{w:World}{base:Nat}{A:Option Addr}{c n:Nat}{xs:List Int}(h:w.ownsRow base 3 1 (.slice A n c) n (xs.map (.int .i64)))(hl:n<=140737488351232):RI w A n xs:=
 ⟨by simpa using h.1,hl,RC.FH h⟩
def RC.lit(w:World)(cs:Array Value)(t:TypeId):RC (w.alloc (.cells cs t)) (some ⟨w.heap.size,0,none⟩) cs.toList:=fun _=>
 ⟨_,0,rfl,by simp,fun j u v=>by simpa using v⟩
theorem RI.lit(w:World)(xs:List Int)(n:Nat)(t:TypeId)(cs:Array Value)(h:cs.toList=xs.map (.int .i64))(hn:xs.length=n)(hl:n<=140737488351232):RI (w.alloc (.cells cs t)) (some ⟨w.heap.size,0,none⟩) n xs:=
 ⟨hn,hl,by rw[<- h];exact RC.lit w cs t⟩
def wi(xs:List Int)(w:World)(e:Ending)(w':World):Prop:=∃A n c,e=.returned (.slice A n c)/\RI w' A n xs/\Below w.heap.size w w'
def wi.mk{xs:List Int}{w:World}{w':World}{A:Option Addr}{n c:Nat}(h:RI w' A n xs)(hb:Below w.heap.size w w'):wi xs w (.returned (.slice A n c)) w':=⟨A,n,c,rfl,h,hb⟩
def RL(w:World)(A:Option Addr)(n:Nat)(l:List (List Int)):Prop:=
 l.length=n/\n<=140737488351232/\∃u:List Value,RC w A u/\u.length=l.length/\∀(k:Nat) (x:List Int),l[k]?=some x->∃(B:Option Addr) (m c:Nat),u[k]?=some (Value.slice B m c)/\RI w B m x
theorem RL.below{w w':World}{A:Option Addr}{n:Nat}{l:List (List Int)}(h:RL w A n l)(hb:Below w.heap.size w w'):RL w' A n l:=by
 obtain⟨u,h1,z,h2,h3,h4⟩:=h;exact⟨u,h1,z,h2.below hb,h3,fun k x y=>by obtain⟨B,m,c,e,v⟩:=h4 k x y;exact⟨B,m,c,e,v.below hb⟩⟩
theorem RL.drewN{w:World}{A:Option Addr}{n:Nat}{l:List (List Int)}(h:RL w A n l)(m:Nat):RL (w.drewN m) A n l:=h
theorem RL.alloc{w:World}{A:Option Addr}{n:Nat}{l:List (List Int)}(h:RL w A n l)(o:Obj):RL (w.alloc o) A n l:=h.below ((Below.refl _ _).alloc (Nat.le_refl _) _)
def RL.len{w:World}{A:Option Addr}{n:Nat}{l:List (List Int)}(h:RL w A n l):l.length=n:=h.1
def RL.le{w:World}{A:Option Addr}{n:Nat}{l:List (List Int)}(h:RL w A n l):n<=140737488351232:=h.2.1
theorem RL.at_{w:World}{A:Option Addr}{n:Nat}{l:List (List Int)}{k:Nat}(h:RL w A n l)(hk:k <n):
  ∃b o B m c x,A=some ⟨b,o,none⟩/\l[k]?=some x/\w.cell? ⟨b,o+k,none⟩=some (.slice B m c)/\RI w B m x:=by
 obtain⟨I,_,J,h2,h3,h4⟩:=h;obtain⟨b,o,u,e,_,G,z⟩:=h2.at_ (k:=k) (by omega);obtain⟨x,y⟩:=av (xs:=l) (k:=k) (by omega);obtain⟨B,m,c,v,D⟩:=h4 k x y;rw[G]at v;cases v;exact⟨b,o,B,m,c,x,e,y,z,D⟩
def RL.blk{w:World}{b o n:Nat}{l:List (List Int)}(h:RL w (some ⟨b,o,none⟩) n l)(h0:0 <n):b <w.heap.size:=by
 obtain⟨h1,_,z,h2,h3,_⟩:=h;obtain⟨v,y,e,u,_⟩:=h2 (by omega);cases e;exact u
def RL.row{w:World}{b o n:Nat}{l:List (List Int)}{k:Nat}(h:RL w (some ⟨b,o,none⟩) n l)(hk:k <n):
  ∃B m c x,l[k]?=some x/\w.cell? ⟨b,o+k,none⟩=some (.slice B m c)/\RI w B m x:=by
 obtain⟨z,D,B,m,c,x,e,y,u,v⟩:=h.at_ hk;cases e;exact⟨B,m,c,x,y,u,v⟩
def RI.elem{w:World}{b o m:Nat}{xs:List Int}{k:Nat}(h:RI w (some ⟨b,o,none⟩) m xs)(hk:k <m):∃n,xs[k]?=some n/\w.cell? ⟨b,o+k,none⟩=some (.int .i64 n):=by
 obtain⟨y,z,n,e,v,u⟩:=h.at_ hk;cases e;exact⟨n,v,u⟩
def RL.one{w:World}{A:Option Addr}{n:Nat}{xs:List Int}(c:Nat)(h1:RI w A n xs)(t:TypeId):
  RL (w.alloc (.cells #[.slice A n c] t)) (some ⟨w.heap.size,0,none⟩) 1 [xs]:=by
 refine⟨rfl,by simp,_,RC.lit w _ t,rfl,fun k x u=>?_⟩
 match k,u with
 |0,u=>cases u;exact⟨A,n,c,rfl,h1.alloc _⟩
def RL.three{w:World}{A B C:Option Addr}{n m p:Nat}{xs v zs:List Int}(c d e:Nat)(h1:RI w A n xs)(h2:RI w B m v)(h3:RI w C p zs)(t:TypeId):
  RL (w.alloc (.cells #[.slice A n c,.slice B m d,.slice C p e] t)) (some ⟨w.heap.size,0,none⟩) 3 [xs,v,zs]:=by
 refine⟨rfl,by simp,_,RC.lit w _ t,rfl,fun k x u=>?_⟩
 match k,u with
 |0,u=>cases u;exact⟨A,n,c,rfl,h1.alloc _⟩
 |1,u=>cases u;exact⟨B,m,d,rfl,h2.alloc _⟩
 |2,u=>cases u;exact⟨C,p,e,rfl,h3.alloc _⟩
def OI(w:World)(base g cap n:Nat)(xs:List Int):Prop:=
 xs.length=n/\n<=140737488351232/\w.ownsRow base 3 1 (.slice (some ⟨g,0,none⟩) n cap) n (xs.map (.int .i64))
section
variable {w w':World} {base g cap n:Nat} {xs:List Int}
def OI.len(h:OI w base g cap n xs):xs.length=n:=h.1
def OI.le(h:OI w base g cap n xs):n<=140737488351232:=h.2.1
theorem OI.lt(h:OI w base g cap n xs):base<=g/\g <w.heap.size:=h.2.2.lt g rfl
theorem OI.cell(h:OI w base g cap n xs){k:Nat}(hk:k <n):∃x,xs[k]?=some x/\w.cell? ⟨g,k,none⟩=some (.int .i64 x):=by
 obtain⟨x,u⟩:=av (xs:=xs) (k:=k) (by rw[h.1];exact hk);refine⟨x,u,?_⟩;rw[h.2.2.cellAt k (by omega),List.getElem?_map,u];rfl
theorem OI.frozen(h:OI w base g cap n xs)(k:Nat):w.frozen? ⟨g,k,none⟩=false:=h.2.2.frozenAt k
theorem OI.set(h:OI w base g cap n xs)(k:Nat)(x:Int):OI (w.setCell ⟨g,k,none⟩ (.int .i64 x)) base g cap n (xs.set k x):=
 ⟨by rw[List.length_set];exact h.1,h.2.1,by rw[List.map_set];exact(h.2.2.stored k (.int .i64 x)).1⟩
def OI.below(h:OI w base g cap n xs)(hb:Below w.heap.size w w'):OI w' base g cap n xs:=
 ⟨h.1,h.2.1,h.2.2.kept (row:=none) ⟨hb.os,hb.tape,hb.output,hb.size,fun k u _=>hb.block k u⟩ (.inr (by simp[Value.ownBlock]))⟩
theorem OI.drewN(h:OI w base g cap n xs)(m:Nat):OI (w.drewN m) base g cap n xs:=h.below (BD _ _ _)
def OI.mono(h:OI w base g cap n xs){B:Nat}(D:B<=base):OI w B g cap n xs:=by
 refine⟨h.1,h.2.1,h.2.2.1,?_⟩;rcases h.2.2.2 with⟨e,_⟩|⟨z,y,v,e,G,u⟩
 ·cases e
 ·exact .inr ⟨z,y,v,e,Nat.le_trans D G,u⟩
def RI.store{A:Option Addr}{m:Nat}{y:List Int}{B:Nat}{v:World}(h:RI v A m y)(hb:Below v.heap.size v w){p:Addr}(hp:v.heap.size<=p.block)(u:Value):RI (w.setCell p u) A m y:=
 h.below (hb.setCell hp u)
end
theorem yZ{w w':World}{base:Nat}{e:TypeId}{size:Nat}{v:Value}{n:Nat}{xs:List Value}(h:w.ownsRow base e size v n xs)(hb:Below w.heap.size w w'):w'.ownsRow base e size v n xs:=
 h.kept (row:=none) ⟨hb.os,hb.tape,hb.output,hb.size,fun k u _=>hb.block k u⟩ (by cases v.ownBlock <;>simp)
def A_{α:Type}(R:World->List Value->α->Prop):Prop:=∀w w' u x,R w u x->Below w.heap.size w w'->R w' u x
def RG{α:Type}(sz:Nat)(R:World->List Value->α->Prop)(w:World)(A:Option Addr)(n:Nat)(l:List α):Prop:=
 l.length=n/\n<=17592186044416/\(0 <n->∃b o,A=some ⟨b,o,none⟩/\b <w.heap.size/\∀(k:Nat) (x:α),l[k]?=some x->∃v,v.length=sz/\(∀(j:Nat) (u:Value),v[j]?=some u->w.cell? ⟨b,o+k*sz+j,none⟩=some u)/\R w v x)
section
variable {α:Type} {sz:Nat} {R:World->List Value->α->Prop} {w w':World} {A:Option Addr} {n:Nat} {l:List α}
def RG.below(D:A_ R)(h:RG sz R w A n l)(hb:Below w.heap.size w w'):RG sz R w' A n l:=
 ⟨h.1,h.2.1,fun z=>by
  obtain⟨b,o,e,v,G⟩:=h.2.2 z;refine⟨b,o,e,Nat.lt_of_lt_of_le v hb.size,fun k x J=>?_⟩;obtain⟨y,h1,h2,h3⟩:=G k x J;exact⟨y,h1,fun j u I=>(hb.cell (p:=⟨b,o+k*sz+j,none⟩) v).trans (h2 j u I),D _ _ _ _ h3 hb⟩⟩
def RG.len(h:RG sz R w A n l):l.length=n:=h.1
def RG.le(h:RG sz R w A n l):n<=17592186044416:=h.2.1
def RG.nil(w:World)(A:Option Addr):RG sz R w A 0 []:=⟨rfl,by simp,fun h=>absurd h (Nat.lt_irrefl 0)⟩
def RG.at_{k:Nat}(h:RG sz R w A n l)(hk:k <n):∃b o cs x,A=some ⟨b,o,none⟩/\b <w.heap.size/\l[k]?=some x/\cs.length=sz/\R w cs x/\∀(j:Nat) (u:Value),cs[j]?=some u->w.cell? ⟨b,o+k*sz+j,none⟩=some u:=by
 obtain⟨b,o,e,v,z⟩:=h.2.2 (by omega);obtain⟨x,y⟩:=av (xs:=l) (k:=k) (by rw[h.1];exact hk);obtain⟨cs,h1,h2,h3⟩:=z k x y;exact⟨b,o,cs,x,e,v,y,h1,h3,h2⟩
theorem RG.take(h:RG sz R w A n l)(k:Nat)(hk:k<=n):RG sz R w A k (l.take k):=by
 refine⟨by rw[List.length_take,h.1];omega,by have:=h.2.1;omega,fun D=>?_⟩;obtain⟨b,o,e,u,y⟩:=h.2.2 (by omega);refine⟨b,o,e,u,fun i x v=>y i x ?_⟩;have z:i <k:=by have:=aC v;rw[List.length_take]at this;omega
 rw[List.getElem?_take,if_pos z]at v;exact v
end
structure Ev where
 r:Int
 n:Int
 t:Int
 past:List Int
 k:Int
 a:Int
 gk:Int
 gi:Int
 ge:Int
 ga:Int
 to:Int
 pl:Int
 se:Int
deriving DecidableEq
structure Jy where
 wr:Bool
 cl:List Int
 ev:Ev
deriving DecidableEq
end Go.Proofs.YtgbfedgghjcdcaaGreatDoor
