/- RightsOrders: what is called answers true at every input,and leaves its arguments as they were. Conditions: none but the card's own (the listed variables stand as the program's text lays them). -/
import Derived.Test.YtjolgbkkocjpgaaGreatDoorTLG
import Derived.Test.YtjolgbkkocjpgaaGreatDoorRRY
set_option linter.defProp false
set_option linter.unusedSimpArgs false
set_option linter.unusedVariables false
set_option linter.unusedSectionVars false
namespace Go.Proofs.YtjolgbkkocjpgaaGreatDoor.rightsOrders
open Go.ChangeShapes Go.WideShapes Go.ChangeAt Go.RowKit
set_option maxRecDepth 100000 in
theorem walk (xs:List AV) (h:r9 Tryz.prog 12 Tryz.f6.params.toList xs):Cl ai 6 (xs.map .t) [] (.t (.bool true)) []:=by
 rw [Tryz.params6] at h;obtain ⟨x0,_,rfl,D,x1,_,rfl,h1,x2,_,rfl,h2,x3,_,rfl,h3,rfl⟩:=h;obtain ⟨m,rfl,G⟩:=DW D;obtain ⟨p,rfl,I⟩:=EI h1;obtain ⟨J,rfl,u,y⟩:=Nu h2;obtain ⟨U,rfl,v,z⟩:=Nw h3;exact Qj G I u y v z
set_option maxRecDepth 100000 in
theorem tg (H:Type) (enc:TypeId×Value->H) (W:World) (base:Nat) (args:Array Value) (ds D:List (DataW H)) (u:List MemPlace)
  (y:∀ (j:Nat) t v,Tryz.f6.params[j]?=some t->args[j]?=some v->Value.okWide Tryz.prog W .any base t v)
  (hW:DataW.Whole enc Tryz.prog Tryz.f6.params.toList Rows.rightsOrdersSpec.vars false W args.toList ds D u) (z:(DataW.weightsEach Tryz.prog (Tryz.f6.params.toList++(OpenSpec.ofChange Rows.rightsOrdersSpec).bare.plain.varTypes Tryz.prog) (ds++D)).all (·<=reachBytes)=true) (J:laidMetH Tryz.prog Rows.rightsOrdersRow.laid W) :
  Calls Tryz.prog 6 args W fun e I=>∃ v,e=.returned v/\Rows.rightsOrdersSpec.post enc Tryz.prog Tryz.f6 false true false false W args v I:=
 have G:m_ W:=EH (by kernel_rfl) J
 Co (g:=ai) (γ:=dq) (m:=12) rfl EG (s:=Rows.rightsOrdersSpec) rfl (by kernel_rfl) (by kernel_rfl) (by kernel_rfl) (fun ds h=>by rw [Tryz.params6] at h;exact match ds,h with|[_,_,_,_],_=>rfl) y hW z G (Es G) walk
theorem zZ(os:Os):laidMet Tryz.prog Rows.rightsOrdersRow.laid (((qT os)).forCall (fun _ _=>0) ⟨#[],#[.agg #[.slice none 0 0,.slice none 0 0,.slice none 0 0,.slice none 0 0,.slice none 0 0,.slice none 0 0,.slice none 0 0],.agg #[.slice none 0 0,.slice none 0 0,.slice none 0 0,.slice none 0 0],.slice none 0 0,.slice none 0 0],[]⟩).memory:=
 laidMet_of_run' 8 (by kernel_rfl) (by kernel_rfl)
theorem reads(os:Os){H:Type}(enc:TypeId×Value->H):∃u,DataW.whole enc Tryz.prog (((qT os)).forCall (fun _ _=>0) ⟨#[],#[.agg #[.slice none 0 0,.slice none 0 0,.slice none 0 0,.slice none 0 0,.slice none 0 0,.slice none 0 0,.slice none 0 0],.agg #[.slice none 0 0,.slice none 0 0,.slice none 0 0,.slice none 0 0],.slice none 0 0,.slice none 0 0],[]⟩).memory Tryz.f6.params.toList Rows.rightsOrdersSpec.vars false (#[.agg #[.slice none 0 0,.slice none 0 0,.slice none 0 0,.slice none 0 0,.slice none 0 0,.slice none 0 0,.slice none 0 0],.agg #[.slice none 0 0,.slice none 0 0,.slice none 0 0,.slice none 0 0],.slice none 0 0,.slice none 0 0]:Array Value).toList 8=some ([.agg [.nil,.nil,.nil,.nil,.nil,.nil,.nil],.agg [.nil,.nil,.nil,.nil],.nil,.nil],[],u):=
 ⟨[],by kernel_rfl⟩
set_option maxRecDepth 100000 in
theorem lifted (os:Os) (u:os.Started) (H:Type) (enc:TypeId×Value->H) (F:Stop.Interp) :
  ReturnsInHanded {} Tryz.checked os 6 .any ((OpenSpec.ofChange Rows.rightsOrdersSpec).preRow enc Tryz.prog Tryz.f6 Rows.rightsOrdersRow.domain false Rows.rightsOrdersRow.laid) (((OpenSpec.ofChange Rows.rightsOrdersSpec).at F).post enc Tryz.prog Tryz.f6 false true false false):=by
 obtain ⟨D,Z⟩:=reads os enc
 refine returnsInHanded_of_row (C:=Tryz.checked) (s:=OpenSpec.ofChange Rows.rightsOrdersSpec) own u (by kernel_rfl) Tryz.func6
  (witness_row_atRef (enc:=enc) (C:=Tryz.checked) false (qT os) #[.agg #[.slice none 0 0,.slice none 0 0,.slice none 0 0,.slice none 0 0,.slice none 0 0,.slice none 0 0,.slice none 0 0],.agg #[.slice none 0 0,.slice none 0 0,.slice none 0 0,.slice none 0 0],.slice none 0 0,.slice none 0 0] rfl (by kernel_rfl) (by kernel_rfl) (by kernel_rfl)
   (OpenSpec.preRow_of_cond 8 Z (by kernel_rfl) (fun k V=>by cases V) (by kernel_rfl) (zZ os))) ?_
 intro W base y ds I v z U _ _ G J hS _;exact tg H enc W base y ds I v z U G J
end Go.Proofs.YtjolgbkkocjpgaaGreatDoor.rightsOrders
