/- Proved: MechanismMore answers true at every input,and leaves its arguments as they were. Conditions: none but the card's own (the listed variables stand as the program's text lays them). -/
import Derived.Test.YtcpgmmlaimkojaaGreatDoorXLG
set_option linter.unusedSimpArgs false
set_option linter.unusedVariables false
set_option linter.unusedSectionVars false
namespace Go.Proofs.YtcpgmmlaimkojaaGreatDoor.mechanismMore
open Go.ChangeShapes Go.WideShapes Go.ChangeAt Go.RowKit
theorem fact1:(Rows.mechanismMoreRow.inPlace == Tryz.pinned.checked.prog.inPlace 9)=true:=by kernel_rfl
theorem fact2:(Rows.mechanismMoreRow.unfollowed == Tryz.pinned.checked.prog.unfollowed 9)=true:=by kernel_rfl
theorem fact3:(Rows.mechanismMoreRow.recurses == Tryz.pinned.checked.prog.recurses 9)=true:=by kernel_rfl
theorem fact4:(Rows.mechanismMoreRow.named == Tryz.pinned.checked.prog.varsNamed 9)=true:=by kernel_rfl
theorem closed:joinedFacts Tryz.pinned.checked.prog 9 Tryz.f9 (OpenSpec.ofChange Rows.mechanismMoreSpec).bare Rows.mechanismMoreRow=true:=by
 unfold joinedFacts
 rw [fact1,fact2,fact3,fact4]
 kernel_rfl
theorem instanceOk:(Tryz.f9).isInstance Tryz.pinned.checked.prog Rows.mechanismMoreRow.origin Rows.mechanismMoreRow.targs:=of_decide_eq_true (by kernel_rfl)
theorem wrapperOk:(Tryz.f9).isWrapper Tryz.pinned.checked.prog Rows.mechanismMoreRow.wrapper Rows.mechanismMoreRow.mainSum:=by unfold Func.isWrapper;rw [if_neg (of_decide_eq_false (by kernel_rfl))];exact ⟨rfl,rfl⟩
theorem namedOk:Tryz.pinned.checked.prog.funcNamed Rows.mechanismMoreRow.func=some 9:=by kernel_rfl
theorem plain (f : FuncId) (fn : Func) (hf : Tryz.pinned.checked.prog.funcNamed "confluent/confluentlaw27.MechanismMore" = some f) (hfn : Tryz.pinned.checked.prog.funcs[f]? = some fn) :
  false=Tryz.pinned.checked.prog.looks []∧∀ (j:Nat) t,fn.params[j]?=some t→Tryz.pinned.checked.prog.wantsStandIn t=false:=by
 obtain rfl : f = 9 := Option.some.inj ((show Tryz.prog.funcNamed "confluent/confluentlaw27.MechanismMore" = some 9 by kernel_rfl).symm.trans hf) |>.symm
 obtain rfl:fn=Tryz.f9:=(Option.some.inj (Tryz.func9.symm.trans hfn)).symm
 refine ⟨by kernel_rfl,fun j t ht=>?_⟩
 have hall:(Tryz.f9.params.toList.all fun u=>!Tryz.prog.wantsStandIn u)=true:=by kernel_rfl
 have hm:t∈Tryz.f9.params.toList:=by simpa using Array.mem_of_getElem? ht
 exact (show Tryz.prog.wantsStandIn t=false by simpa using List.all_eq_true.1 hall t hm)
end Go.Proofs.YtcpgmmlaimkojaaGreatDoor.mechanismMore
