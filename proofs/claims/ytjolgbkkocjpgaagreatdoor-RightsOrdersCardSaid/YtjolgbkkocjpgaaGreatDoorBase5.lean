/- A slice of elements of several cells each,read by a word of the elements;events and acts of sessions. No condition. -/
import Derived.Test.YtjolgbkkocjpgaaGreatDoorBase
set_option linter.defProp false
set_option linter.unusedSimpArgs false
set_option linter.unusedVariables false
set_option linter.unusedSectionVars false
namespace Go.Proofs.YtjolgbkkocjpgaaGreatDoor
open Go.RowKit
def Jk{α:Type}(R:World->List Value->α->Prop):Prop:=∀w w' u x,R w u x->Below w.heap.size w w'->R w' u x
def RG{α:Type}(sz:Nat)(R:World->List Value->α->Prop)(w:World)(A:Option Addr)(n:Nat)(l:List α):Prop:=
 l.length=n/\n<=17592186044416/\(0 <n->∃b o,A=some ⟨b,o,none⟩/\b <w.heap.size/\∀(k:Nat) (x:α),l[k]?=some x->∃v,v.length=sz/\(∀(j:Nat) (u:Value),v[j]?=some u->w.cell? ⟨b,o+k*sz+j,none⟩=some u)/\R w v x)
section
variable {α:Type} {sz:Nat} {R:World->List Value->α->Prop} {w w':World} {A:Option Addr} {n:Nat} {l:List α}
def RG.below(D:Jk R)(h:RG sz R w A n l)(hb:Below w.heap.size w w'):RG sz R w' A n l:=
 ⟨h.1,h.2.1,fun z=>by
  obtain⟨b,o,e,v,G⟩:=h.2.2 z;refine⟨b,o,e,Nat.lt_of_lt_of_le v hb.size,fun k x J=>?_⟩;obtain⟨y,h1,h2,h3⟩:=G k x J;exact⟨y,h1,fun j u I=>(hb.cell (p:=⟨b,o+k*sz+j,none⟩) v).trans (h2 j u I),D _ _ _ _ h3 hb⟩⟩
def RG.len(h:RG sz R w A n l):l.length=n:=h.1
def RG.le(h:RG sz R w A n l):n<=17592186044416:=h.2.1
def RG.nil(w:World)(A:Option Addr):RG sz R w A 0 []:=⟨rfl,by simp,fun h=>absurd h (Nat.lt_irrefl 0)⟩
def RG.at_{k:Nat}(h:RG sz R w A n l)(hk:k <n):∃b o cs x,A=some ⟨b,o,none⟩/\b <w.heap.size/\l[k]?=some x/\cs.length=sz/\R w cs x/\∀(j:Nat) (u:Value),cs[j]?=some u->w.cell? ⟨b,o+k*sz+j,none⟩=some u:=by
 obtain⟨b,o,e,v,z⟩:=h.2.2 (by omega);obtain⟨x,y⟩:=am (xs:=l) (k:=k) (by rw[h.1];exact hk);obtain⟨cs,h1,h2,h3⟩:=z k x y;exact⟨b,o,cs,x,e,v,y,h1,h3,h2⟩
theorem RG.take(h:RG sz R w A n l)(k:Nat)(hk:k<=n):RG sz R w A k (l.take k):=by
 refine⟨by rw[List.length_take,h.1];omega,by have:=h.2.1;omega,fun D=>?_⟩;obtain⟨b,o,e,u,y⟩:=h.2.2 (by omega);refine⟨b,o,e,u,fun i x v=>y i x ?_⟩;have z:i <k:=by have:=aF v;rw[List.length_take]at this;omega
 rw[List.getElem?_take,if_pos z]at v;exact v
end
structure Ev where
 r:Int
 n:Int
 t:Int
 past:List Int
 k:Int
 a:Int
 gk:Int
 gi:Int
 ge:Int
 ga:Int
 to:Int
 pl:Int
 se:Int
deriving DecidableEq
structure Qn where
 wr:Bool
 cl:List Int
 ev:Ev
deriving DecidableEq
end Go.Proofs.YtjolgbkkocjpgaaGreatDoor
