/- A slice of elements of several cells each,read by a word of the elements;events and acts of sessions. No condition. -/
import Derived.Test.YtjdhnoffoknlnaaGreatDoorBase
set_option linter.unusedSimpArgs false
set_option linter.unusedVariables false
set_option linter.unusedSectionVars false
namespace Go.Proofs.YtjdhnoffoknlnaaGreatDoor
open Go.RowKit
def Stays {α:Type} (R:World→List Value→α→Prop):Prop:=∀ w w' cs x,R w cs x→Below w.heap.size w w'→R w' cs x
def RG {α:Type} (sz:Nat) (R:World→List Value→α→Prop) (w:World) (A:Option Addr) (n:Nat) (l:List α):Prop:=
 l.length=n∧n≤17592186044416∧(0 < n→∃ b o,A=some ⟨b,o,none⟩∧b < w.heap.size∧∀ (k:Nat) (x:α),l[k]?=some x→∃ cs,cs.length=sz∧(∀ (j:Nat) (u:Value),cs[j]?=some u→w.cell? ⟨b,o+k * sz+j,none⟩=some u)∧R w cs x)
section
variable {α:Type} {sz:Nat} {R:World→List Value→α→Prop} {w w':World} {A:Option Addr} {n:Nat} {l:List α}
theorem RG.below (hR:Stays R) (h:RG sz R w A n l) (hb:Below w.heap.size w w'):RG sz R w' A n l:=
 ⟨h.1,h.2.1,fun h0=>by
  obtain ⟨b,o,e,hlt,hc⟩:=h.2.2 h0
  refine ⟨b,o,e,Nat.lt_of_lt_of_le hlt hb.size,fun k x hx=>?_⟩
  obtain ⟨cs,h1,h2,h3⟩:=hc k x hx
  exact ⟨cs,h1,fun j u hu=>(hb.cell (p:=⟨b,o+k * sz+j,none⟩) hlt).trans (h2 j u hu),hR _ _ _ _ h3 hb⟩⟩
theorem RG.len (h:RG sz R w A n l):l.length=n:=h.1
theorem RG.le (h:RG sz R w A n l):n≤17592186044416:=h.2.1
theorem RG.nil (w:World) (A:Option Addr):RG sz R w A 0 []:=⟨rfl,by simp,fun h=>absurd h (Nat.lt_irrefl 0)⟩
theorem RG.at_ {k:Nat} (h:RG sz R w A n l) (hk:k < n):∃ b o cs x,A=some ⟨b,o,none⟩∧b < w.heap.size∧l[k]?=some x∧cs.length=sz∧R w cs x∧∀ (j:Nat) (u:Value),cs[j]?=some u→w.cell? ⟨b,o+k * sz+j,none⟩=some u:=by
 obtain ⟨b,o,e,hlt,hc⟩:=h.2.2 (by omega)
 obtain ⟨x,hx⟩:=get_of_lt (xs:=l) (k:=k) (by rw [h.1];exact hk)
 obtain ⟨cs,h1,h2,h3⟩:=hc k x hx
 exact ⟨b,o,cs,x,e,hlt,hx,h1,h3,h2⟩
theorem RG.take (h:RG sz R w A n l) (k:Nat) (hk:k≤n):RG sz R w A k (l.take k):=by
 refine ⟨by rw [List.length_take,h.1];omega,by have:=h.2.1;omega,fun h0=>?_⟩
 obtain ⟨b,o,e,hlt,hc⟩:=h.2.2 (by omega)
 refine ⟨b,o,e,hlt,fun i x hx=>hc i x ?_⟩
 have hi:i < k:=by have:=lt_of_get hx;rw [List.length_take] at this;omega
 rw [List.getElem?_take,if_pos hi] at hx
 exact hx
end
structure Ev where
 r:Int
 n:Int
 t:Int
 past:List Int
 k:Int
 a:Int
 gk:Int
 gi:Int
 ge:Int
 ga:Int
 to:Int
 pl:Int
 se:Int
deriving DecidableEq
structure SAct where
 wr:Bool
 cl:List Int
 ev:Ev
deriving DecidableEq
end Go.Proofs.YtjdhnoffoknlnaaGreatDoor
