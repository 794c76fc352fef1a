/- The form of an event, in plain Lean. No condition. -/
import Derived.Test.YtgbfedgghjcdcaaGreatDoorSpec2
import Derived.Test.YtgbfedgghjcdcaaGreatDoorBase5
namespace Go.Proofs.YtgbfedgghjcdcaaGreatDoor
set_option linter.unusedSimpArgs false
set_option linter.unusedVariables false
set_option linter.unusedSectionVars false
def betB (n l h : Int) : Bool := decide (l ≤ n) && decide (n ≤ h)
def headOk (e : Ev) : Bool := validB e.past && (betB e.r 0 ((e.past.length : Int) - 1) && (decide (e.n = e.past.getD e.r.toNat 0 + 1) && (decide (e.n ≤ 1024) && betB e.t 1 1073741824)))
def giveZ (e : Ev) : Bool := decide (e.gk = 0) && (decide (e.gi = 0) && (decide (e.ge = 0) && (decide (e.ga = 0) && decide (e.to = 0))))
def actF (e : Ev) : Bool := betB e.a 0 255 && betB e.pl 0 1024 && betB e.se 1 1048576
def noteF (e : Ev) : Bool := betB e.pl 1 1024 && betB e.se 1 1048576
def giveF (e : Ev) : Bool := betB e.gk 0 1 && betB e.ge 0 (if e.gk = 1 then 5 else 0) && betB e.gi 0 1023 && betB e.ga 1 1000000 && betB e.to 0 ((e.past.length : Int) - 1) && decide (e.to ≠ e.r)
def formB (e : Ev) : Bool := headOk e && (if e.k = 0 then actF e && giveZ e else if e.k = 1 then giveF e && (decide (e.a = 0) && (decide (e.pl = 0) && decide (e.se = 0))) else if e.k = 2 then noteF e && (decide (e.a = 0) && giveZ e) else false)
end Go.Proofs.YtgbfedgghjcdcaaGreatDoor
