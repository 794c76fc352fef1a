/- Proved: RightsDivide answers true at every input,and leaves its arguments as they were. Conditions: none but the card's own (the listed variables stand as the program's text lays them). -/
import Derived.Test.YtjolgbkkocjpgaaGreatDoorCRDivA
set_option linter.unusedSimpArgs false
set_option linter.unusedVariables false
set_option linter.unusedSectionVars false
namespace Go.Proofs.YtjolgbkkocjpgaaGreatDoor.rightsDivide
open Go.ChangeShapes Go.WideShapes Go.ChangeAt Go.RowKit
theorem fact1:(Rows.rightsDivideRow.inPlace==Tryz.pinned.checked.prog.inPlace 3)=true:=by kernel_rfl
theorem fact2:(Rows.rightsDivideRow.unfollowed==Tryz.pinned.checked.prog.unfollowed 3)=true:=by kernel_rfl
theorem fact3:(Rows.rightsDivideRow.recurses==Tryz.pinned.checked.prog.recurses 3)=true:=by kernel_rfl
theorem fact4:(Rows.rightsDivideRow.named==Tryz.pinned.checked.prog.varsNamed 3)=true:=by kernel_rfl
theorem closed:joinedFacts Tryz.pinned.checked.prog 3 Tryz.f3 (OpenSpec.ofChange Rows.rightsDivideSpec).bare Rows.rightsDivideRow=true:=by
 unfold joinedFacts;rw[fact1,fact2,fact3,fact4];kernel_rfl
theorem instanceOk:(Tryz.f3).isInstance Tryz.pinned.checked.prog Rows.rightsDivideRow.origin Rows.rightsDivideRow.targs:=of_decide_eq_true (by kernel_rfl)
theorem wrapperOk:(Tryz.f3).isWrapper Tryz.pinned.checked.prog Rows.rightsDivideRow.wrapper Rows.rightsDivideRow.mainSum:=by unfold Func.isWrapper;rw[if_neg (of_decide_eq_false (by kernel_rfl))];exact⟨rfl,rfl⟩
theorem namedOk:Tryz.pinned.checked.prog.funcNamed Rows.rightsDivideRow.func=some 3:=by kernel_rfl
theorem said:Rows.RightsDivideSaid:=
 OpenClaim.holds_of_cond 3 Tryz.f3 rfl rfl rfl rfl rfl rfl rfl ⟨rfl,rfl,rfl,rfl,rfl⟩ rfl rfl rfl rfl rfl namedOk Tryz.func3 closed instanceOk wrapperOk
  (fun v u H enc _ F=>by rw[OpenClaim.pre_eq_preRow];exact lifted v u H enc F)
theorem plain(f :FuncId)(fn :Func)(hf :Tryz.pinned.checked.prog.funcNamed "confluent/confluentlaw39.RightsDivide" =some f)(y :Tryz.pinned.checked.prog.funcs[f]?=some fn):
  false=Tryz.pinned.checked.prog.looks []/\∀(j:Nat) t,fn.params[j]?=some t->Tryz.pinned.checked.prog.wantsStandIn t=false:=by
 obtain rfl :f=3 :=Option.some.inj ((show Tryz.prog.funcNamed "confluent/confluentlaw39.RightsDivide" =some 3 by kernel_rfl).symm.trans hf)|>.symm
 obtain rfl:fn=Tryz.f3:=(Option.some.inj (Tryz.func3.symm.trans y)).symm;refine⟨by kernel_rfl,fun j t D=>?_⟩;have v:(Tryz.f3.params.toList.all fun u=>!Tryz.prog.wantsStandIn u)=true:=by kernel_rfl
 have z:t∈Tryz.f3.params.toList:=by simpa using Array.mem_of_getElem? D
 exact(show Tryz.prog.wantsStandIn t=false by simpa using List.all_eq_true.1 v t z)
theorem card:Rows.RightsDivideCardSaid:=
 Claim7.holds_tied_plain_at .later [] _ _ _ _ said (fun _ h=>by cases h) (by kernel_rfl) (fun _ h=>by cases h) rightsDivide_row_tie rfl ⟨rfl,rfl⟩ (by kernel_rfl) rfl plain (by kernel_rfl)
end Go.Proofs.YtjolgbkkocjpgaaGreatDoor.rightsDivide
