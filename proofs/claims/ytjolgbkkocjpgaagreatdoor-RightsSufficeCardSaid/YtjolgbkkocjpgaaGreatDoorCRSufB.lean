/- RightsSuffice: closed facts of the program. Conditions: none. -/
import Derived.Test.YtjolgbkkocjpgaaGreatDoorTLG
set_option linter.all false
namespace Go.Proofs.YtjolgbkkocjpgaaGreatDoor.rightsSuffice
open Go.ChangeShapes Go.WideShapes Go.ChangeAt Go.RowKit
set_option maxRecDepth 100000
def L8(os:Os):laidMet Tryz.prog Rows.rightsSufficeRow.laid (((zL os)).forCall (fun _ _=>0) ⟨#[],#[.agg #[.slice none 0 0,.slice none 0 0,.slice none 0 0,.slice none 0 0,.slice none 0 0,.slice none 0 0,.slice none 0 0],.agg #[.slice none 0 0,.slice none 0 0,.slice none 0 0,.slice none 0 0],.slice none 0 0,.int .i64 0,.int .i64 0,.int .i64 0],[]⟩).memory:=
 laidMet_of_run' 8 (by kernel_rfl) (by kernel_rfl)
def reads(os:Os){H:Type}(enc:TypeId×Value->H):∃u,DataW.whole enc Tryz.prog (((zL os)).forCall (fun _ _=>0) ⟨#[],#[.agg #[.slice none 0 0,.slice none 0 0,.slice none 0 0,.slice none 0 0,.slice none 0 0,.slice none 0 0,.slice none 0 0],.agg #[.slice none 0 0,.slice none 0 0,.slice none 0 0,.slice none 0 0],.slice none 0 0,.int .i64 0,.int .i64 0,.int .i64 0],[]⟩).memory Tryz.f4.params.toList Rows.rightsSufficeSpec.vars false (#[.agg #[.slice none 0 0,.slice none 0 0,.slice none 0 0,.slice none 0 0,.slice none 0 0,.slice none 0 0,.slice none 0 0],.agg #[.slice none 0 0,.slice none 0 0,.slice none 0 0,.slice none 0 0],.slice none 0 0,.int .i64 0,.int .i64 0,.int .i64 0]:Array Value).toList 8=some ([.agg [.nil,.nil,.nil,.nil,.nil,.nil,.nil],.agg [.nil,.nil,.nil,.nil],.nil,.lit (.int .i64 0),.lit (.int .i64 0),.lit (.int .i64 0)],[],u):=
 ⟨[],by kernel_rfl⟩
theorem fact1:(Rows.rightsSufficeRow.inPlace==Tryz.pinned.checked.prog.inPlace 4)=true:=by kernel_rfl
theorem fact2:(Rows.rightsSufficeRow.unfollowed==Tryz.pinned.checked.prog.unfollowed 4)=true:=by kernel_rfl
theorem fact3:(Rows.rightsSufficeRow.recurses==Tryz.pinned.checked.prog.recurses 4)=true:=by kernel_rfl
theorem fact4:(Rows.rightsSufficeRow.named==Tryz.pinned.checked.prog.varsNamed 4)=true:=by kernel_rfl
theorem closed:joinedFacts Tryz.pinned.checked.prog 4 Tryz.f4 (OpenSpec.ofChange Rows.rightsSufficeSpec).bare Rows.rightsSufficeRow=true:=by
 unfold joinedFacts;rw[fact1,fact2,fact3,fact4];kernel_rfl
theorem instanceOk:(Tryz.f4).isInstance Tryz.pinned.checked.prog Rows.rightsSufficeRow.origin Rows.rightsSufficeRow.targs:=of_decide_eq_true (by kernel_rfl)
theorem wrapperOk:(Tryz.f4).isWrapper Tryz.pinned.checked.prog Rows.rightsSufficeRow.wrapper Rows.rightsSufficeRow.mainSum:=by unfold Func.isWrapper;rw[if_neg (of_decide_eq_false (by kernel_rfl))];exact⟨rfl,rfl⟩
theorem namedOk:Tryz.pinned.checked.prog.funcNamed Rows.rightsSufficeRow.func=some 4:=by kernel_rfl
theorem plain(f :FuncId)(fn :Func)(hf :Tryz.pinned.checked.prog.funcNamed "confluent/confluentlaw39.RightsSuffice" =some f)(y :Tryz.pinned.checked.prog.funcs[f]?=some fn):
  false=Tryz.pinned.checked.prog.looks []/\∀(j:Nat) t,fn.params[j]?=some t->Tryz.pinned.checked.prog.wantsStandIn t=false:=by
 obtain rfl :f=4 :=Option.some.inj ((show Tryz.prog.funcNamed "confluent/confluentlaw39.RightsSuffice" =some 4 by kernel_rfl).symm.trans hf)|>.symm
 obtain rfl:fn=Tryz.f4:=(Option.some.inj (Tryz.func4.symm.trans y)).symm;refine⟨by kernel_rfl,fun j t D=>?_⟩;have v:(Tryz.f4.params.toList.all fun u=>!Tryz.prog.wantsStandIn u)=true:=by kernel_rfl
 have z:t∈Tryz.f4.params.toList:=by simpa using Array.mem_of_getElem? D
 exact(show Tryz.prog.wantsStandIn t=false by simpa using List.all_eq_true.1 v t z)
end Go.Proofs.YtjolgbkkocjpgaaGreatDoor.rightsSuffice
