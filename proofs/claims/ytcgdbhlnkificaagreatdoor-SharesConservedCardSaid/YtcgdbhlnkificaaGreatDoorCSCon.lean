/- Proved: SharesConserved answers true at every input,and leaves its arguments as they were. Conditions: none but the card's own (the listed variables stand as the program's text lays them). -/
import Derived.Test.YtcgdbhlnkificaaGreatDoorCSConA
set_option linter.all false
namespace Go.Proofs.YtcgdbhlnkificaaGreatDoor.sharesConserved
open Go.ChangeShapes Go.WideShapes Go.ChangeAt Go.RowKit
theorem fact1:(Rows.sharesConservedRow.inPlace==Tryz.pinned.checked.prog.inPlace 8)=true:=by kernel_rfl
theorem fact2:(Rows.sharesConservedRow.unfollowed==Tryz.pinned.checked.prog.unfollowed 8)=true:=by kernel_rfl
theorem fact3:(Rows.sharesConservedRow.recurses==Tryz.pinned.checked.prog.recurses 8)=true:=by kernel_rfl
theorem fact4:(Rows.sharesConservedRow.named==Tryz.pinned.checked.prog.varsNamed 8)=true:=by kernel_rfl
theorem closed:joinedFacts Tryz.pinned.checked.prog 8 Tryz.f8 (OpenSpec.ofChange Rows.sharesConservedSpec).bare Rows.sharesConservedRow=true:=by
 unfold joinedFacts;rw[fact1,fact2,fact3,fact4];kernel_rfl
theorem instanceOk:(Tryz.f8).isInstance Tryz.pinned.checked.prog Rows.sharesConservedRow.origin Rows.sharesConservedRow.targs:=of_decide_eq_true (by kernel_rfl)
theorem wrapperOk:(Tryz.f8).isWrapper Tryz.pinned.checked.prog Rows.sharesConservedRow.wrapper Rows.sharesConservedRow.mainSum:=by unfold Func.isWrapper;rw[if_neg (of_decide_eq_false (by kernel_rfl))];exact⟨rfl,rfl⟩
theorem namedOk:Tryz.pinned.checked.prog.funcNamed Rows.sharesConservedRow.func=some 8:=by kernel_rfl
theorem said:Rows.SharesConservedSaid:=
 OpenClaim.holds_of_cond 8 Tryz.f8 rfl rfl rfl rfl rfl rfl rfl ⟨rfl,rfl,rfl,rfl,rfl⟩ rfl rfl rfl rfl rfl namedOk Tryz.func8 closed instanceOk wrapperOk
  (fun v u H enc _ F=>by rw[OpenClaim.pre_eq_preRow];exact lifted v u H enc F)
theorem plain(f :FuncId)(fn :Func)(hf :Tryz.pinned.checked.prog.funcNamed "confluent/confluentlaw40.SharesConserved" =some f)(y :Tryz.pinned.checked.prog.funcs[f]?=some fn):
  false=Tryz.pinned.checked.prog.looks []/\∀(j:Nat) t,fn.params[j]?=some t->Tryz.pinned.checked.prog.wantsStandIn t=false:=by
 obtain rfl :f=8 :=Option.some.inj ((show Tryz.prog.funcNamed "confluent/confluentlaw40.SharesConserved" =some 8 by kernel_rfl).symm.trans hf)|>.symm
 obtain rfl:fn=Tryz.f8:=(Option.some.inj (Tryz.func8.symm.trans y)).symm;refine⟨by kernel_rfl,fun j t D=>?_⟩;have v:(Tryz.f8.params.toList.all fun u=>!Tryz.prog.wantsStandIn u)=true:=by kernel_rfl
 have z:t∈Tryz.f8.params.toList:=by simpa using Array.mem_of_getElem? D
 exact(show Tryz.prog.wantsStandIn t=false by simpa using List.all_eq_true.1 v t z)
theorem card:Rows.SharesConservedCardSaid:=
 Claim7.holds_tied_plain_at .later [] _ _ _ _ said (fun _ h=>by cases h) (by kernel_rfl) (fun _ h=>by cases h) sharesConserved_row_tie rfl ⟨rfl,rfl⟩ (by kernel_rfl) rfl plain (by kernel_rfl)
end Go.Proofs.YtcgdbhlnkificaaGreatDoor.sharesConserved
