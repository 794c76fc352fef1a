/- Proved: MechanismMore answers true at every input,and leaves its arguments as they were. Conditions: none but the card's own (the listed variables stand as the program's text lays them). -/
import Derived.Test.YtcpgmmlaimkojaaGreatDoorCMMorA
import Derived.Test.YtcpgmmlaimkojaaGreatDoorCMMorB
set_option linter.unusedSimpArgs false
set_option linter.unusedVariables false
set_option linter.unusedSectionVars false
namespace Go.Proofs.YtcpgmmlaimkojaaGreatDoor.mechanismMore
open Go.ChangeShapes Go.WideShapes Go.ChangeAt Go.RowKit
theorem said:Rows.MechanismMoreSaid:=
 OpenClaim.holds_of_cond 9 Tryz.f9 rfl rfl rfl rfl rfl rfl rfl ⟨rfl,rfl,rfl,rfl,rfl⟩ rfl rfl rfl rfl rfl namedOk Tryz.func9 closed instanceOk wrapperOk
  (fun os started H enc _ F=>by rw [OpenClaim.pre_eq_preRow];exact lifted os started H enc F)
theorem card:Rows.MechanismMoreCardSaid:=
 Claim7.holds_tied_plain_at .later [] _ _ _ _ said (fun _ h=>by cases h) (by kernel_rfl) (fun _ h=>by cases h) mechanismMore_row_tie rfl ⟨rfl,rfl⟩ (by kernel_rfl) rfl plain (by kernel_rfl)
end Go.Proofs.YtcpgmmlaimkojaaGreatDoor.mechanismMore
