/- Proved: RightsSuffice answers true at every input,and leaves its arguments as they were. Conditions: none but the card's own (the listed variables stand as the program's text lays them). -/
import Derived.Test.YtjolgbkkocjpgaaGreatDoorCRSufA
set_option linter.all false
namespace Go.Proofs.YtjolgbkkocjpgaaGreatDoor.rightsSuffice
open Go.ChangeShapes Go.WideShapes Go.ChangeAt Go.RowKit
theorem said:Rows.RightsSufficeSaid:=
 OpenClaim.holds_of_cond 4 Tryz.f4 rfl rfl rfl rfl rfl rfl rfl ⟨rfl,rfl,rfl,rfl,rfl⟩ rfl rfl rfl rfl rfl namedOk Tryz.func4 closed instanceOk wrapperOk
  (fun v u H enc _ F=>by rw[OpenClaim.pre_eq_preRow];exact lifted v u H enc F)
theorem card:Rows.RightsSufficeCardSaid:=
 Claim7.holds_tied_plain_at .later [] _ _ _ _ said (fun _ h=>by cases h) (by kernel_rfl) (fun _ h=>by cases h) rightsSuffice_row_tie rfl ⟨rfl,rfl⟩ (by kernel_rfl) rfl plain (by kernel_rfl)
end Go.Proofs.YtjolgbkkocjpgaaGreatDoor.rightsSuffice
