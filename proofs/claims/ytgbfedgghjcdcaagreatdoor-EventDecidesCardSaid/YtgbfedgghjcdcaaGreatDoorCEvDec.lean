/- Proved: EventDecides answers true at every input,and leaves its arguments as they were. Conditions: none but the card's own (the listed variables stand as the program's text lays them). -/
import Derived.Test.YtgbfedgghjcdcaaGreatDoorCEvDecA
set_option linter.all false
namespace Go.Proofs.YtgbfedgghjcdcaaGreatDoor.eventDecides
open Go.ChangeShapes Go.WideShapes Go.ChangeAt Go.RowKit
theorem fact1:(Rows.eventDecidesRow.inPlace==Tryz.pinned.checked.prog.inPlace 6)=true:=by kernel_rfl
theorem fact2:(Rows.eventDecidesRow.unfollowed==Tryz.pinned.checked.prog.unfollowed 6)=true:=by kernel_rfl
theorem fact3:(Rows.eventDecidesRow.recurses==Tryz.pinned.checked.prog.recurses 6)=true:=by kernel_rfl
theorem fact4:(Rows.eventDecidesRow.named==Tryz.pinned.checked.prog.varsNamed 6)=true:=by kernel_rfl
theorem closed:joinedFacts Tryz.pinned.checked.prog 6 Tryz.f6 (OpenSpec.ofChange Rows.eventDecidesSpec).bare Rows.eventDecidesRow=true:=by
 unfold joinedFacts;rw[fact1,fact2,fact3,fact4];kernel_rfl
theorem instanceOk:(Tryz.f6).isInstance Tryz.pinned.checked.prog Rows.eventDecidesRow.origin Rows.eventDecidesRow.targs:=of_decide_eq_true (by kernel_rfl)
theorem wrapperOk:(Tryz.f6).isWrapper Tryz.pinned.checked.prog Rows.eventDecidesRow.wrapper Rows.eventDecidesRow.mainSum:=by unfold Func.isWrapper;rw[if_neg (of_decide_eq_false (by kernel_rfl))];exact⟨rfl,rfl⟩
theorem namedOk:Tryz.pinned.checked.prog.funcNamed Rows.eventDecidesRow.func=some 6:=by kernel_rfl
theorem said:Rows.EventDecidesSaid:=
 OpenClaim.holds_of_cond 6 Tryz.f6 rfl rfl rfl rfl rfl rfl rfl ⟨rfl,rfl,rfl,rfl,rfl⟩ rfl rfl rfl rfl rfl namedOk Tryz.func6 closed instanceOk wrapperOk
  (fun v u H enc _ F=>by rw[OpenClaim.pre_eq_preRow];exact lifted v u H enc F)
theorem plain(f :FuncId)(fn :Func)(hf :Tryz.pinned.checked.prog.funcNamed "confluent/confluentlaw32.EventDecides" =some f)(y :Tryz.pinned.checked.prog.funcs[f]?=some fn):
  true=Tryz.pinned.checked.prog.looks []/\∀(j:Nat) t,fn.params[j]?=some t->Tryz.pinned.checked.prog.wantsStandIn t=false:=by
 obtain rfl :f=6 :=Option.some.inj ((show Tryz.prog.funcNamed "confluent/confluentlaw32.EventDecides" =some 6 by kernel_rfl).symm.trans hf)|>.symm
 obtain rfl:fn=Tryz.f6:=(Option.some.inj (Tryz.func6.symm.trans y)).symm;refine⟨by kernel_rfl,fun j t D=>?_⟩;have v:(Tryz.f6.params.toList.all fun u=>!Tryz.prog.wantsStandIn u)=true:=by kernel_rfl
 have z:t∈Tryz.f6.params.toList:=by simpa using Array.mem_of_getElem? D
 exact(show Tryz.prog.wantsStandIn t=false by simpa using List.all_eq_true.1 v t z)
theorem card:Rows.EventDecidesCardSaid:=
 Claim7.holds_tied_plain_at .later [] _ _ _ _ said (fun _ h=>by cases h) (by kernel_rfl) (fun _ h=>by cases h) eventDecides_row_tie rfl ⟨rfl,rfl⟩ (by kernel_rfl) rfl plain (by kernel_rfl)
end Go.Proofs.YtgbfedgghjcdcaaGreatDoor.eventDecides
