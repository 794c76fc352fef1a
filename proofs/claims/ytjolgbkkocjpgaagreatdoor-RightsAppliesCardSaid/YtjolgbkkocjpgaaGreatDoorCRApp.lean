/- Proved: RightsApplies answers true at every input,and leaves its arguments as they were. Conditions: none but the card's own (the listed variables stand as the program's text lays them). -/
import Derived.Test.YtjolgbkkocjpgaaGreatDoorCRAppA
set_option linter.all false
namespace Go.Proofs.YtjolgbkkocjpgaaGreatDoor.rightsApplies
open Go.ChangeShapes Go.WideShapes Go.ChangeAt Go.RowKit
theorem a1:(Rows.rightsAppliesRow.inPlace==Tryz.pinned.checked.prog.inPlace 5)=true:=by kernel_rfl
theorem a2:(Rows.rightsAppliesRow.unfollowed==Tryz.pinned.checked.prog.unfollowed 5)=true:=by kernel_rfl
theorem a3:(Rows.rightsAppliesRow.recurses==Tryz.pinned.checked.prog.recurses 5)=true:=by kernel_rfl
theorem a4:(Rows.rightsAppliesRow.named==Tryz.pinned.checked.prog.varsNamed 5)=true:=by kernel_rfl
theorem c8:joinedFacts Tryz.pinned.checked.prog 5 Tryz.f5 (OpenSpec.ofChange Rows.rightsAppliesSpec).bare Rows.rightsAppliesRow=true:=by
 unfold joinedFacts;rw[a1,a2,a3,a4];kernel_rfl
theorem i8:(Tryz.f5).isInstance Tryz.pinned.checked.prog Rows.rightsAppliesRow.origin Rows.rightsAppliesRow.targs:=of_decide_eq_true (by kernel_rfl)
theorem w8:(Tryz.f5).isWrapper Tryz.pinned.checked.prog Rows.rightsAppliesRow.wrapper Rows.rightsAppliesRow.mainSum:=by unfold Func.isWrapper;rw[if_neg (of_decide_eq_false (by kernel_rfl))];exact⟨rfl,rfl⟩
theorem n8:Tryz.pinned.checked.prog.funcNamed Rows.rightsAppliesRow.func=some 5:=by kernel_rfl
theorem said:Rows.RightsAppliesSaid:=
 OpenClaim.holds_of_cond 5 Tryz.f5 rfl rfl rfl rfl rfl rfl rfl ⟨rfl,rfl,rfl,rfl,rfl⟩ rfl rfl rfl rfl rfl n8 Tryz.func5 c8 i8 w8
  (fun v u H enc _ F=>by rw[OpenClaim.pre_eq_preRow];exact lifted v u H enc F)
theorem plain(f :FuncId)(fn :Func)(hf :Tryz.pinned.checked.prog.funcNamed "confluent/confluentlaw39.RightsApplies" =some f)(y :Tryz.pinned.checked.prog.funcs[f]?=some fn):
  false=Tryz.pinned.checked.prog.looks []/\∀(j:Nat) t,fn.params[j]?=some t->Tryz.pinned.checked.prog.wantsStandIn t=false:=by
 obtain rfl :f=5 :=Option.some.inj ((show Tryz.prog.funcNamed "confluent/confluentlaw39.RightsApplies" =some 5 by kernel_rfl).symm.trans hf)|>.symm
 obtain rfl:fn=Tryz.f5:=(Option.some.inj (Tryz.func5.symm.trans y)).symm;refine⟨by kernel_rfl,fun j t D=>?_⟩;have v:(Tryz.f5.params.toList.all fun u=>!Tryz.prog.wantsStandIn u)=true:=by kernel_rfl
 have z:t∈Tryz.f5.params.toList:=by simpa using Array.mem_of_getElem? D
 exact(show Tryz.prog.wantsStandIn t=false by simpa using List.all_eq_true.1 v t z)
theorem card:Rows.RightsAppliesCardSaid:=
 Claim7.holds_tied_plain_at .later [] _ _ _ _ said (fun _ h=>by cases h) (by kernel_rfl) (fun _ h=>by cases h) rightsApplies_row_tie rfl ⟨rfl,rfl⟩ (by kernel_rfl) rfl plain (by kernel_rfl)
end Go.Proofs.YtjolgbkkocjpgaaGreatDoor.rightsApplies
