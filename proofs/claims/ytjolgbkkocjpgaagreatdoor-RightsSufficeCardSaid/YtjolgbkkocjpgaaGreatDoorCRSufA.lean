/- RightsSuffice: what is called answers true at every input,and leaves its arguments as they were. Conditions: none but the card's own (the listed variables stand as the program's text lays them). -/
import Derived.Test.YtjolgbkkocjpgaaGreatDoorTLG
import Derived.Test.YtjolgbkkocjpgaaGreatDoorTRK
import Derived.Test.YtjolgbkkocjpgaaGreatDoorCRSufB
set_option linter.all false
namespace Go.Proofs.YtjolgbkkocjpgaaGreatDoor.rightsSuffice
open Go.ChangeShapes Go.WideShapes Go.ChangeAt Go.RowKit
set_option maxRecDepth 100000 in
theorem walk (xs:List AV) (h:uP Tryz.prog 12 Tryz.f4.params.toList xs):Cl ah 4 (xs.map .t) [] (.t (.bool true)) []:=by
 rw [Tryz.params4] at h;obtain ⟨x0,_,rfl,y,x1,_,rfl,h1,x2,_,rfl,h2,x3,_,rfl,h3,x4,_,rfl,h4,x5,_,rfl,z,rfl⟩:=h;obtain ⟨m,rfl,D⟩:=Ij y;obtain ⟨p,rfl,G⟩:=Il h1;obtain ⟨V,rfl,u,v⟩:=Ig h2;obtain ⟨I,rfl⟩:=B4 h3;obtain ⟨J,rfl⟩:=B4 h4;obtain ⟨U,rfl⟩:=B4 z;exact SJ D G u v
set_option maxRecDepth 100000 in
theorem s9 (H:Type) (enc:TypeId×Value->H) (W:World) (base:Nat) (args:Array Value) (ds D:List (DataW H)) (u:List MemPlace)
  (y:∀ (j:Nat) t v,Tryz.f4.params[j]?=some t->args[j]?=some v->Value.okWide Tryz.prog W .any base t v)
  (hW:DataW.Whole enc Tryz.prog Tryz.f4.params.toList Rows.rightsSufficeSpec.vars false W args.toList ds D u) (z:(DataW.weightsEach Tryz.prog (Tryz.f4.params.toList++(OpenSpec.ofChange Rows.rightsSufficeSpec).bare.plain.varTypes Tryz.prog) (ds++D)).all (·<=reachBytes)=true) (J:laidMetH Tryz.prog Rows.rightsSufficeRow.laid W) :
  Calls Tryz.prog 4 args W fun e I=>∃ v,e=.returned v/\Rows.rightsSufficeSpec.post enc Tryz.prog Tryz.f4 false true false false W args v I:=
 have G:n9 W:=Q5 (by kernel_rfl) J
 SI (g:=ah) (γ:=dK) (m:=12) rfl RS (s:=Rows.rightsSufficeSpec) rfl (by kernel_rfl) (by kernel_rfl) (by kernel_rfl) (fun ds h=>by rw [Tryz.params4] at h;exact match ds,h with|[_,_,_,_,_,_],_=>rfl) y hW z G (Q2 G) walk
set_option maxRecDepth 100000 in
theorem lifted (os:Os) (u:os.Started) (H:Type) (enc:TypeId×Value->H) (F:Stop.Interp) :
  ReturnsInHanded {} Tryz.checked os 4 .any ((OpenSpec.ofChange Rows.rightsSufficeSpec).preRow enc Tryz.prog Tryz.f4 Rows.rightsSufficeRow.domain false Rows.rightsSufficeRow.laid) (((OpenSpec.ofChange Rows.rightsSufficeSpec).at F).post enc Tryz.prog Tryz.f4 false true false false):=by
 obtain ⟨D,Z⟩:=reads os enc
 refine returnsInHanded_of_row (C:=Tryz.checked) (s:=OpenSpec.ofChange Rows.rightsSufficeSpec) own u (by kernel_rfl) Tryz.func4
  (witness_row_atRef (enc:=enc) (C:=Tryz.checked) false (zL os) #[.agg #[.slice none 0 0,.slice none 0 0,.slice none 0 0,.slice none 0 0,.slice none 0 0,.slice none 0 0,.slice none 0 0],.agg #[.slice none 0 0,.slice none 0 0,.slice none 0 0,.slice none 0 0],.slice none 0 0,.int .i64 0,.int .i64 0,.int .i64 0] rfl (by kernel_rfl) (by kernel_rfl) (by kernel_rfl)
   (OpenSpec.preRow_of_cond 8 Z (by kernel_rfl) (fun k V=>by cases V) (by kernel_rfl) (L8 os))) ?_
 intro W base y ds I v z U _ _ G J hS _;exact s9 H enc W base y ds I v z U G J
end Go.Proofs.YtjolgbkkocjpgaaGreatDoor.rightsSuffice
