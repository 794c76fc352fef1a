/- The tree evaluator, 27: texts read byte by byte; numbers of other kinds. No condition. -/
import Derived.Test.YtgbfedgghjcdcaaGreatDoorTC
namespace Go.Proofs.YtgbfedgghjcdcaaGreatDoor
set_option linter.unusedSimpArgs false
set_option linter.unusedVariables false
set_option linter.unusedSectionVars false
open Go.RowKit
section
variable {g : Cfg} {d : Option (List Nat)} {i' : Nat} {env : Env} {fr : Fr}
/-- A number told in the kind of int. -/
theorem OpR.cvi {src dst : Nat} {k : IntKind} {x : Operand} {m : Int} {ds : TypeDesc} (hx : rd env x = .t (.int k m)) (hs : g.P.underlying src = some ds) (hd : g.P.underlying dst = some (.int .i64)) (h : -9223372036854775808 ≤ m ∧ m ≤ 9223372036854775807) : OpR g d i' env fr (.convert src dst x) (.t (.int .i64 m)) fr [] := .p rfl rfl (by
  unfold evP convS
  simp only [hx, hs, hd, IntWalk.i64_in _ h])
end
end Go.Proofs.YtgbfedgghjcdcaaGreatDoor
