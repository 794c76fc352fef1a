/- Law 52: the reference's Check. No condition. -/
import Derived.Test.YtjdhnoffoknlnaaGreatDoorWM
namespace Go.Proofs.YtjdhnoffoknlnaaGreatDoor
set_option linter.unusedSimpArgs false
set_option linter.unusedVariables false
set_option linter.unusedSectionVars false
open Go.RowKit
set_option maxRecDepth 100000
set_option maxHeartbeats 4000000

def rHasB (a : List Int) (e : Ev) : Bool := decide (e.r < a.length) && decide (e.n ≤ a.getD e.r.toNat 0)
def refG (x y : SAct) : Int := match x.wr, y.wr with
  | false, false => if rContB x.cl y.cl then 0 else 1
  | false, true => if rHasB x.cl y.ev then 0 else 2
  | true, true => if rHasB x.ev.past y.ev then 0 else 3
  | true, false => if rContB x.ev.past y.cl then 0 else 4
def brkStep (x : SAct) (out : Int) (y : SAct) : Int := if refG x y ≠ 0 ∧ (out = 0 ∨ refG x y < out) then refG x y else out
def brokenS (p : List SAct) (x : SAct) : Int := p.foldl (brkStep x) 0
theorem brokenS_more {p : List SAct} {q : Nat} {x y : SAct} (h : p[q]? = some y) : brokenS (p.take (q + 1)) x = brkStep x (brokenS (p.take q) x) y := by
  unfold brokenS
  rw [List.take_add_one, h, List.foldl_append]
  rfl
end Go.Proofs.YtjdhnoffoknlnaaGreatDoor
