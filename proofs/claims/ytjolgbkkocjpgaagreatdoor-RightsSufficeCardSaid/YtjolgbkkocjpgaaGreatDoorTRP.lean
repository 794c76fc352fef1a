/- Law 39: the reference's. No condition. -/
import Derived.Test.YtjolgbkkocjpgaaGreatDoorTRT
import Derived.Test.YtjolgbkkocjpgaaGreatDoorTRC
import Derived.Test.YtjolgbkkocjpgaaGreatDoorRPG
import Derived.Test.YtjolgbkkocjpgaaGreatDoorTRS
set_option linter.all false
namespace Go.Proofs.YtjolgbkkocjpgaaGreatDoor
open Go.RowKit
set_option maxRecDepth 100000
set_option maxHeartbeats 32000000
def fF(A:List bE):List bE:=A.filter fun x=>decide (x.k=0)
def dw(m:Md)(p:Pln)(e:Ev):List cz:=if e.k=0 then bn e.r.toNat (-1) (fF (bO m p e.a 1))else if fq e=true then[⟨e.gi.toNat,e.r.toNat,0 - e.ga⟩]else[]
def ii(m:Md)(p:Pln)(e:Ev):List cz:=if e.k=0 then bn e.r.toNat 1 (aT m e.a (-1) 0 p.ao)else if fq e=true then[⟨e.gi.toNat,e.to.toNat,e.ga⟩]else[]
theorem o5{N R:Nat}:∀{S:List cz} {z:List (List Int)},(∀s∈S,bW N R s)->bM N R z->bM N R (S.foldl aP z)
 |[],z,_,h=>h
 |s::S,z,u,h=>o5 (S:=S) (z:=aP z s) (fun t v=>u t (by simp[v])) (lX h (u s (by simp)))
end Go.Proofs.YtjolgbkkocjpgaaGreatDoor
