/- SharesConserved: what is called answers true at every input,and leaves its arguments as they were. Conditions: none but the card's own (the listed variables stand as the program's text lays them). -/
import Derived.Test.YtcgdbhlnkificaaGreatDoorTLG
import Derived.Test.YtcgdbhlnkificaaGreatDoorUY
set_option linter.all false
namespace Go.Proofs.YtcgdbhlnkificaaGreatDoor.sharesConserved
open Go.ChangeShapes Go.WideShapes Go.ChangeAt Go.RowKit
set_option maxRecDepth 100000 in
theorem walk (xs:List AV) (h:rY Tryz.prog 12 Tryz.f8.params.toList xs):Cl aj 8 (xs.map .t) [] (.t (.bool true)) []:=by
 rw [Tryz.params8] at h;obtain ⟨x0,_,rfl,z,x1,_,rfl,h1,x2,_,rfl,h2,x3,_,rfl,h3,rfl⟩:=h;obtain ⟨m,rfl,D⟩:=Bf z;obtain ⟨p,rfl,G⟩:=Bh h1;obtain ⟨I,rfl,u,y⟩:=Hn h2;obtain ⟨J,rfl,v⟩:=Ta h3;exact TK D G u y v
set_option maxRecDepth 100000 in
theorem pi (H:Type) (enc:TypeId×Value->H) (W:World) (base:Nat) (args:Array Value) (ds D:List (DataW H)) (u:List MemPlace)
  (y:∀ (j:Nat) t v,Tryz.f8.params[j]?=some t->args[j]?=some v->Value.okWide Tryz.prog W .any base t v)
  (hW:DataW.Whole enc Tryz.prog Tryz.f8.params.toList Rows.sharesConservedSpec.vars false W args.toList ds D u) (z:(DataW.weightsEach Tryz.prog (Tryz.f8.params.toList++(OpenSpec.ofChange Rows.sharesConservedSpec).bare.plain.varTypes Tryz.prog) (ds++D)).all (·<=reachBytes)=true) (J:laidMetH Tryz.prog Rows.sharesConservedRow.laid W) :
  Calls Tryz.prog 8 args W fun e I=>∃ v,e=.returned v/\Rows.sharesConservedSpec.post enc Tryz.prog Tryz.f8 false true false false W args v I:=
 have G:mT W:=Gs (by kernel_rfl) J
 Dg (g:=aj) (γ:=dB) (m:=12) rfl GQ (s:=Rows.sharesConservedSpec) rfl (by kernel_rfl) (by kernel_rfl) (by kernel_rfl) (fun ds h=>by rw [Tryz.params8] at h;exact match ds,h with|[_,_,_,_],_=>rfl) y hW z G (Gr G) walk
theorem yI(os:Os):laidMet Tryz.prog Rows.sharesConservedRow.laid (((rc os)).forCall (fun _ _=>0) ⟨#[],#[.agg #[.slice none 0 0,.slice none 0 0,.slice none 0 0,.slice none 0 0,.slice none 0 0,.slice none 0 0,.slice none 0 0],.agg #[.slice none 0 0,.slice none 0 0,.slice none 0 0,.slice none 0 0],.slice none 0 0,.slice none 0 0],[]⟩).memory:=
 laidMet_of_run' 8 (by kernel_rfl) (by kernel_rfl)
theorem reads(os:Os){H:Type}(enc:TypeId×Value->H):∃u,DataW.whole enc Tryz.prog (((rc os)).forCall (fun _ _=>0) ⟨#[],#[.agg #[.slice none 0 0,.slice none 0 0,.slice none 0 0,.slice none 0 0,.slice none 0 0,.slice none 0 0,.slice none 0 0],.agg #[.slice none 0 0,.slice none 0 0,.slice none 0 0,.slice none 0 0],.slice none 0 0,.slice none 0 0],[]⟩).memory Tryz.f8.params.toList Rows.sharesConservedSpec.vars false (#[.agg #[.slice none 0 0,.slice none 0 0,.slice none 0 0,.slice none 0 0,.slice none 0 0,.slice none 0 0,.slice none 0 0],.agg #[.slice none 0 0,.slice none 0 0,.slice none 0 0,.slice none 0 0],.slice none 0 0,.slice none 0 0]:Array Value).toList 8=some ([.agg [.nil,.nil,.nil,.nil,.nil,.nil,.nil],.agg [.nil,.nil,.nil,.nil],.nil,.nil],[],u):=
 ⟨[],by kernel_rfl⟩
set_option maxRecDepth 100000 in
theorem lifted (os:Os) (u:os.Started) (H:Type) (enc:TypeId×Value->H) (F:Stop.Interp) :
  ReturnsInHanded {} Tryz.checked os 8 .any ((OpenSpec.ofChange Rows.sharesConservedSpec).preRow enc Tryz.prog Tryz.f8 Rows.sharesConservedRow.domain false Rows.sharesConservedRow.laid) (((OpenSpec.ofChange Rows.sharesConservedSpec).at F).post enc Tryz.prog Tryz.f8 false true false false):=by
 obtain ⟨D,Z⟩:=reads os enc
 refine returnsInHanded_of_row (C:=Tryz.checked) (s:=OpenSpec.ofChange Rows.sharesConservedSpec) own u (by kernel_rfl) Tryz.func8
  (witness_row_atRef (enc:=enc) (C:=Tryz.checked) false (rc os) #[.agg #[.slice none 0 0,.slice none 0 0,.slice none 0 0,.slice none 0 0,.slice none 0 0,.slice none 0 0,.slice none 0 0],.agg #[.slice none 0 0,.slice none 0 0,.slice none 0 0,.slice none 0 0],.slice none 0 0,.slice none 0 0] rfl (by kernel_rfl) (by kernel_rfl) (by kernel_rfl)
   (OpenSpec.preRow_of_cond 8 Z (by kernel_rfl) (fun k V=>by cases V) (by kernel_rfl) (yI os))) ?_
 intro W base y ds I v z U _ _ G J hS _;exact pi H enc W base y ds I v z U G J
end Go.Proofs.YtcgdbhlnkificaaGreatDoor.sharesConserved
