/- Proved: SharesSuffice answers true at every input,and leaves its arguments as they were. Conditions: none but the card's own (the listed variables stand as the program's text lays them). -/
import Derived.Test.YtcgdbhlnkificaaGreatDoorCSSufA
set_option linter.all false
namespace Go.Proofs.YtcgdbhlnkificaaGreatDoor.sharesSuffice
open Go.ChangeShapes Go.WideShapes Go.ChangeAt Go.RowKit
theorem fact1:(Rows.sharesSufficeRow.inPlace==Tryz.pinned.checked.prog.inPlace 4)=true:=by kernel_rfl
theorem fact2:(Rows.sharesSufficeRow.unfollowed==Tryz.pinned.checked.prog.unfollowed 4)=true:=by kernel_rfl
theorem fact3:(Rows.sharesSufficeRow.recurses==Tryz.pinned.checked.prog.recurses 4)=true:=by kernel_rfl
theorem fact4:(Rows.sharesSufficeRow.named==Tryz.pinned.checked.prog.varsNamed 4)=true:=by kernel_rfl
theorem closed:joinedFacts Tryz.pinned.checked.prog 4 Tryz.f4 (OpenSpec.ofChange Rows.sharesSufficeSpec).bare Rows.sharesSufficeRow=true:=by
 unfold joinedFacts;rw[fact1,fact2,fact3,fact4];kernel_rfl
theorem instanceOk:(Tryz.f4).isInstance Tryz.pinned.checked.prog Rows.sharesSufficeRow.origin Rows.sharesSufficeRow.targs:=of_decide_eq_true (by kernel_rfl)
theorem wrapperOk:(Tryz.f4).isWrapper Tryz.pinned.checked.prog Rows.sharesSufficeRow.wrapper Rows.sharesSufficeRow.mainSum:=by unfold Func.isWrapper;rw[if_neg (of_decide_eq_false (by kernel_rfl))];exact⟨rfl,rfl⟩
theorem namedOk:Tryz.pinned.checked.prog.funcNamed Rows.sharesSufficeRow.func=some 4:=by kernel_rfl
theorem said:Rows.SharesSufficeSaid:=
 OpenClaim.holds_of_cond 4 Tryz.f4 rfl rfl rfl rfl rfl rfl rfl ⟨rfl,rfl,rfl,rfl,rfl⟩ rfl rfl rfl rfl rfl namedOk Tryz.func4 closed instanceOk wrapperOk
  (fun v u H enc _ F=>by rw[OpenClaim.pre_eq_preRow];exact lifted v u H enc F)
theorem plain(f :FuncId)(fn :Func)(hf :Tryz.pinned.checked.prog.funcNamed "confluent/confluentlaw40.SharesSuffice" =some f)(y :Tryz.pinned.checked.prog.funcs[f]?=some fn):
  false=Tryz.pinned.checked.prog.looks []/\∀(j:Nat) t,fn.params[j]?=some t->Tryz.pinned.checked.prog.wantsStandIn t=false:=by
 obtain rfl :f=4 :=Option.some.inj ((show Tryz.prog.funcNamed "confluent/confluentlaw40.SharesSuffice" =some 4 by kernel_rfl).symm.trans hf)|>.symm
 obtain rfl:fn=Tryz.f4:=(Option.some.inj (Tryz.func4.symm.trans y)).symm;refine⟨by kernel_rfl,fun j t D=>?_⟩;have v:(Tryz.f4.params.toList.all fun u=>!Tryz.prog.wantsStandIn u)=true:=by kernel_rfl
 have z:t∈Tryz.f4.params.toList:=by simpa using Array.mem_of_getElem? D
 exact(show Tryz.prog.wantsStandIn t=false by simpa using List.all_eq_true.1 v t z)
theorem card:Rows.SharesSufficeCardSaid:=
 Claim7.holds_tied_plain_at .later [] _ _ _ _ said (fun _ h=>by cases h) (by kernel_rfl) (fun _ h=>by cases h) sharesSuffice_row_tie rfl ⟨rfl,rfl⟩ (by kernel_rfl) rfl plain (by kernel_rfl)
end Go.Proofs.YtcgdbhlnkificaaGreatDoor.sharesSuffice
