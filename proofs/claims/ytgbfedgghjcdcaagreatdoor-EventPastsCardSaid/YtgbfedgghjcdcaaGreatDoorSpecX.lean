/- Models: their parts, and when they are valid, in plain Lean, as the reference says it. No condition. -/
import Derived.Test.YtgbfedgghjcdcaaGreatDoorSpec2
import Derived.Test.YtgbfedgghjcdcaaGreatDoorSpecLx
namespace Go.Proofs.YtgbfedgghjcdcaaGreatDoor
set_option linter.unusedSimpArgs false
set_option linter.unusedVariables false
set_option linter.unusedSectionVars false

structure Tb where
  name : ByteArray
  kind : Int
  cols : List Int
  lo : Int
  hi : Int
  first : Int
structure Tm where
  cell : Int
  factor : Int
deriving DecidableEq
structure Rw where
  terms : List Tm
  bound : Int
deriving DecidableEq
structure Cn where
  kind : Int
  fam : Int
  row : Rw
  first : Int
  size : Int
structure Opn where
  name : ByteArray
  ord : Bool
  sorts : List Int
structure Chg where
  cell : Int
  add : Int
structure Upd where
  kind : Int
  cell : Int
  value : Int
structure Eff where
  delta : List Chg
  hold : List Rw
  ups : List Upd
structure Actn where
  op : Int
  args : List Int
  eff : Eff
structure Hde where
  table : Int
  col : Int
  to : Int
structure Md where
  sorts : List Int
  tables : List Tb
  fams : List ByteArray
  cons : List Cn
  ops : List Opn
  acts : List Actn
  hides : List Hde

/-! loops that ask the same of all elements -/
section
variable {α : Type} {p : Nat → α → Bool} {l : List α} {q : Nat} {x : α}
theorem all_hit (f : α → Bool) (h : l[q]? = some x) : (l.drop q).all f = (f x && (l.drop (q + 1)).all f) := by rw [drop_get h]; rfl
theorem alle (f : α → Bool) (h : l.length ≤ q) : (l.drop q).all f = true := by rw [drop_end h]; rfl
end
/-! layouts -/
/-! rows, constraints -/
/-! effects, actions -/
/-! references with hide -/
/-! bounds -/
section
variable {S C : List Int}
end
end Go.Proofs.YtgbfedgghjcdcaaGreatDoor
