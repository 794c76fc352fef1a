/- EventSums: what is called answers true at every input,and leaves its arguments as they were. Conditions: none but the card's own (the listed variables stand as the program's text lays them). -/
import Derived.Test.YtgbfedgghjcdcaaGreatDoorCKV
import Derived.Test.YtgbfedgghjcdcaaGreatDoorOK
set_option linter.unusedSimpArgs false
set_option linter.unusedVariables false
set_option linter.unusedSectionVars false
namespace Go.Proofs.YtgbfedgghjcdcaaGreatDoor.eventSums
open Go.ChangeShapes Go.WideShapes Go.ChangeAt Go.RowKit
set_option maxRecDepth 100000 in
theorem contract (H:Type) (enc:TypeId×Value→H) (W:World) (base:Nat) (args:Array Value) (ds gs:List (DataW H)) (before:List MemPlace)
  (hval:∀ (j:Nat) t v,Tryz.f7.params[j]?=some t→args[j]?=some v→Value.okWide Tryz.prog W .any base t v)
  (hW:DataW.Whole enc Tryz.prog Tryz.f7.params.toList Rows.eventSumsSpec.vars false W args.toList ds gs before) (hsz:(DataW.weightsEach Tryz.prog (Tryz.f7.params.toList++(OpenSpec.ofChange Rows.eventSumsSpec).bare.plain.varTypes Tryz.prog) (ds++gs)).all (·≤reachBytes)=true) (hL:laidMetH Tryz.prog Rows.eventSumsRow.laid W) (hS:W.ShapedOpen Tryz.prog) :
  Calls Tryz.prog 7 args W fun e W'=>∃ v,e=.returned v∧Rows.eventSumsSpec.post enc Tryz.prog Tryz.f7 false true false false W args v W':=
 have hT:Tab W:=tab_of_laid (by kernel_rfl) hL
 law_all (g:=cfg) (γ:=gamV) (m:=12) rfl wfV (s:=Rows.eventSumsSpec) rfl (by kernel_rfl) (by kernel_rfl) (by kernel_rfl) (fun ds h=>by rw [Tryz.params7] at h;exact match ds,h with|[_,_,_,_],_=>rfl) hval hW hsz ⟨hT,vars_of rfl hL hS⟩ (nv_le hT (vars_of rfl hL hS)) law_sums_all
theorem laid_met (os:Os):laidMet Tryz.prog Rows.eventSumsRow.laid (((laidWorld os)).forCall (fun _ _=>0) ⟨#[],#[.agg #[.slice none 0 0,.slice none 0 0,.slice none 0 0,.slice none 0 0,.slice none 0 0,.slice none 0 0,.slice none 0 0],.slice none 0 0,.slice none 0 0,.int .u8 0],[]⟩).memory:=
 laidMet_of_run' 8 (by kernel_rfl) (by kernel_rfl)
theorem reads (os:Os) {H:Type} (enc:TypeId×Value→H):∃ places,DataW.whole enc Tryz.prog (((laidWorld os)).forCall (fun _ _=>0) ⟨#[],#[.agg #[.slice none 0 0,.slice none 0 0,.slice none 0 0,.slice none 0 0,.slice none 0 0,.slice none 0 0,.slice none 0 0],.slice none 0 0,.slice none 0 0,.int .u8 0],[]⟩).memory Tryz.f7.params.toList Rows.eventSumsSpec.vars false (#[.agg #[.slice none 0 0,.slice none 0 0,.slice none 0 0,.slice none 0 0,.slice none 0 0,.slice none 0 0,.slice none 0 0],.slice none 0 0,.slice none 0 0,.int .u8 0]:Array Value).toList 8=some ([.agg [.nil,.nil,.nil,.nil,.nil,.nil,.nil],.nil,.nil,.lit (.int .u8 0)],[],places):=
 ⟨[],by kernel_rfl⟩
set_option maxRecDepth 100000 in
theorem lifted (os:Os) (started:os.Started) (H:Type) (enc:TypeId×Value→H) (F:Stop.Interp) :
  ReturnsInHanded {} Tryz.checked os 7 .any ((OpenSpec.ofChange Rows.eventSumsSpec).preRow enc Tryz.prog Tryz.f7 Rows.eventSumsRow.domain false Rows.eventSumsRow.laid) (((OpenSpec.ofChange Rows.eventSumsSpec).at F).post enc Tryz.prog Tryz.f7 false true false false):=by
 obtain ⟨places,hx⟩:=reads os enc
 refine returnsInHanded_of_row (C:=Tryz.checked) (s:=OpenSpec.ofChange Rows.eventSumsSpec) own started (by kernel_rfl) Tryz.func7
  (witness_row_at (enc:=enc) (C:=Tryz.checked) false (laidWorld os) #[.agg #[.slice none 0 0,.slice none 0 0,.slice none 0 0,.slice none 0 0,.slice none 0 0,.slice none 0 0,.slice none 0 0],.slice none 0 0,.slice none 0 0,.int .u8 0] rfl (by kernel_rfl) (by kernel_rfl) (by kernel_rfl)
   (OpenSpec.preRow_of_cond 8 hx (by kernel_rfl) (fun k hk=>by cases hk) (by kernel_rfl) (laid_met os))) ?_
 intro W base args ds gs before hval hW _ _ hsz hL hS _
 exact contract H enc W base args ds gs before hval hW hsz hL hS
end Go.Proofs.YtgbfedgghjcdcaaGreatDoor.eventSums
