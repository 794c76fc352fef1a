/- The texts of events, in plain Lean: how they are written and read. No condition. -/
import Derived.Test.YtgbfedgghjcdcaaGreatDoorSpecP
import Derived.Test.YtgbfedgghjcdcaaGreatDoorSpecE
import Derived.Lib.IndexLaws
namespace Go.Proofs.YtgbfedgghjcdcaaGreatDoor
set_option linter.unusedSimpArgs false
set_option linter.unusedVariables false
set_option linter.unusedSectionVars false
open Go

/-! words -/
/-! numbers -/
/-- What Atoi gives for a word, a number or not. -/
def atoiV (w : List UInt8) : Int := match Lib.atoiAll w with
  | .ok v => v
  | .range => Lib.atoiSat w
  | _ => 0
/-! events -/
/-- What the ranges of a formed event are. -/
structure Rng (e : Ev) : Prop where
  vp : validB e.past = true
  r0 : 0 ≤ e.r
  r1 : e.r ≤ 9999
  n0 : 0 ≤ e.n
  n1 : e.n ≤ 9999
  t0 : 0 ≤ e.t
  t1 : e.t ≤ 9999999999
  k : e.k = 0 ∨ e.k = 1 ∨ e.k = 2
  k0 : e.k = 0 → (0 ≤ e.a ∧ e.a ≤ 255 ∧ 0 ≤ e.pl ∧ e.pl ≤ 1024 ∧ 0 ≤ e.se ∧ e.se ≤ 1048576) ∧ e.gk = 0 ∧ e.gi = 0 ∧ e.ge = 0 ∧ e.ga = 0 ∧ e.to = 0
  k2 : e.k = 2 → (0 ≤ e.pl ∧ e.pl ≤ 1024 ∧ 0 ≤ e.se ∧ e.se ≤ 1048576) ∧ e.a = 0 ∧ e.gk = 0 ∧ e.gi = 0 ∧ e.ge = 0 ∧ e.ga = 0 ∧ e.to = 0
  k1 : e.k = 1 → ((e.gk = 0 ∨ e.gk = 1) ∧ 0 ≤ e.gi ∧ e.gi ≤ 1023 ∧ 0 ≤ e.ge ∧ e.ge ≤ 5 ∧ 0 ≤ e.ga ∧ e.ga ≤ 1000000 ∧ 0 ≤ e.to ∧ e.to ≤ 9999) ∧ e.a = 0 ∧ e.pl = 0 ∧ e.se = 0
/-! the code's reading -/
def at0 (l : List Int) (k : Nat) : Int := l.getD k 0
end Go.Proofs.YtgbfedgghjcdcaaGreatDoor
