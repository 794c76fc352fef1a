/- EventDecides: what is called answers true at every input,and leaves its arguments as they were. Conditions: none but the card's own (the listed variables stand as the program's text lays them). -/
import Derived.Test.YtgbfedgghjcdcaaGreatDoorCKV
import Derived.Test.YtgbfedgghjcdcaaGreatDoorTDD
set_option linter.all false
namespace Go.Proofs.YtgbfedgghjcdcaaGreatDoor.eventDecides
open Go.ChangeShapes Go.WideShapes Go.ChangeAt Go.RowKit
set_option maxRecDepth 100000 in
theorem oS (H:Type) (enc:TypeId×Value->H) (W:World) (base:Nat) (args:Array Value) (ds G:List (DataW H)) (u:List MemPlace)
  (y:∀ (j:Nat) t v,Tryz.f6.params[j]?=some t->args[j]?=some v->Value.okWide Tryz.prog W .any base t v)
  (hW:DataW.Whole enc Tryz.prog Tryz.f6.params.toList Rows.eventDecidesSpec.vars false W args.toList ds G u) (D:(DataW.weightsEach Tryz.prog (Tryz.f6.params.toList++(OpenSpec.ofChange Rows.eventDecidesSpec).bare.plain.varTypes Tryz.prog) (ds++G)).all (·<=reachBytes)=true) (z:laidMetH Tryz.prog Rows.eventDecidesRow.laid W) (I:W.ShapedOpen Tryz.prog) :
  Calls Tryz.prog 6 args W fun e O=>∃ v,e=.returned v/\Rows.eventDecidesSpec.post enc Tryz.prog Tryz.f6 false true false false W args v O:=
 have J:iK W:=Ij (by kernel_rfl) z
 EH (g:=ap) (γ:=j7) (m:=12) rfl I9 (s:=Rows.eventDecidesSpec) rfl (by kernel_rfl) (by kernel_rfl) (by kernel_rfl) (fun ds h=>by rw [Tryz.params6] at h;exact match ds,h with|[_,_,_],_=>rfl) y hW D ⟨J,AR rfl z I⟩ (FF J (AR rfl z I)) EL
def EC(os:Os):laidMet Tryz.prog Rows.eventDecidesRow.laid (((uE os)).forCall (fun _ _=>0) ⟨#[],#[.agg #[.slice none 0 0,.slice none 0 0,.slice none 0 0,.slice none 0 0,.slice none 0 0,.slice none 0 0,.slice none 0 0],.slice none 0 0,.int .u8 0],[]⟩).memory:=
 laidMet_of_run' 8 (by kernel_rfl) (by kernel_rfl)
def reads(os:Os){H:Type}(enc:TypeId×Value->H):∃u,DataW.whole enc Tryz.prog (((uE os)).forCall (fun _ _=>0) ⟨#[],#[.agg #[.slice none 0 0,.slice none 0 0,.slice none 0 0,.slice none 0 0,.slice none 0 0,.slice none 0 0,.slice none 0 0],.slice none 0 0,.int .u8 0],[]⟩).memory Tryz.f6.params.toList Rows.eventDecidesSpec.vars false (#[.agg #[.slice none 0 0,.slice none 0 0,.slice none 0 0,.slice none 0 0,.slice none 0 0,.slice none 0 0,.slice none 0 0],.slice none 0 0,.int .u8 0]:Array Value).toList 8=some ([.agg [.nil,.nil,.nil,.nil,.nil,.nil,.nil],.nil,.lit (.int .u8 0)],[],u):=
 ⟨[],by kernel_rfl⟩
set_option maxRecDepth 100000 in
theorem lifted (os:Os) (u:os.Started) (H:Type) (enc:TypeId×Value->H) (F:Stop.Interp) :
  ReturnsInHanded {} Tryz.checked os 6 .any ((OpenSpec.ofChange Rows.eventDecidesSpec).preRow enc Tryz.prog Tryz.f6 Rows.eventDecidesRow.domain false Rows.eventDecidesRow.laid) (((OpenSpec.ofChange Rows.eventDecidesSpec).at F).post enc Tryz.prog Tryz.f6 false true false false):=by
 obtain ⟨D,V⟩:=reads os enc
 refine returnsInHanded_of_row (C:=Tryz.checked) (s:=OpenSpec.ofChange Rows.eventDecidesSpec) own u (by kernel_rfl) Tryz.func6
  (witness_row_at (enc:=enc) (C:=Tryz.checked) false (uE os) #[.agg #[.slice none 0 0,.slice none 0 0,.slice none 0 0,.slice none 0 0,.slice none 0 0,.slice none 0 0,.slice none 0 0],.slice none 0 0,.int .u8 0] rfl (by kernel_rfl) (by kernel_rfl) (by kernel_rfl)
   (OpenSpec.preRow_of_cond 8 V (by kernel_rfl) (fun k U=>by cases U) (by kernel_rfl) (EC os))) ?_
 intro W base y ds I v z Q _ _ G J O _;exact oS H enc W base y ds I v z Q G J O
end Go.Proofs.YtgbfedgghjcdcaaGreatDoor.eventDecides
