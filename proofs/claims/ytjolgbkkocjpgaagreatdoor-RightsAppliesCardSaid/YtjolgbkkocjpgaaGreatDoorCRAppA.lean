/- RightsApplies: what is called answers true at every input,and leaves its arguments as they were. Conditions: none but the card's own (the listed variables stand as the program's text lays them). -/
import Derived.Test.YtjolgbkkocjpgaaGreatDoorTLG
import Derived.Test.YtjolgbkkocjpgaaGreatDoorRRA
import Derived.Test.YtjolgbkkocjpgaaGreatDoorVSL
set_option linter.all false
namespace Go.Proofs.YtjolgbkkocjpgaaGreatDoor.rightsApplies
open Go.ChangeShapes Go.WideShapes Go.ChangeAt Go.RowKit
set_option maxRecDepth 100000 in
theorem walk (xs:List AV) (h:uP Tryz.prog 12 Tryz.f5.params.toList xs) (V:∀ (j:Nat) (t e:TypeId) (l:List (List AV)),xs[j]?=some (.arr l)->Tryz.f5.params[j]?=some t->Tryz.prog.underlying t=some (.slice e)->l.length * Tryz.prog.bytesOf e<=140737488351232):Cl ah 5 (xs.map .t) [] (.t (.bool true)) []:=by
 rw [Tryz.params5] at h;obtain ⟨x0,_,rfl,I,x1,_,rfl,h1,x2,_,rfl,h2,x3,_,rfl,h3,x4,_,rfl,h4,x5,_,rfl,J,x6,_,rfl,U,rfl⟩:=h;obtain ⟨m,rfl,Z⟩:=Ij I;obtain ⟨p,rfl,hp⟩:=Il h1;obtain ⟨s2,rfl,v,z⟩:=Ig h2;obtain ⟨G,rfl,ab,D⟩:=Ii h3
 have u:G.length * 120<=140737488351232:=by
  have h:=V 3 60 57 (cC G) rfl (by rw [Tryz.params5];rfl) (by kernel_rfl);rwa [oE,show Tryz.prog.bytesOf 57=120 by kernel_rfl] at h
 obtain ⟨s4,rfl,y⟩:=Ih h4;obtain ⟨n5,rfl⟩:=B4 J;obtain ⟨n6,rfl⟩:=B4 U;exact Mb Z hp v z u D y
set_option maxRecDepth 100000 in
theorem s9 (H:Type) (enc:TypeId×Value->H) (W:World) (base:Nat) (args:Array Value) (ds D:List (DataW H)) (u:List MemPlace)
  (y:∀ (j:Nat) t v,Tryz.f5.params[j]?=some t->args[j]?=some v->Value.okWide Tryz.prog W .any base t v)
  (hW:DataW.Whole enc Tryz.prog Tryz.f5.params.toList Rows.rightsAppliesSpec.vars false W args.toList ds D u) (z:(DataW.weightsEach Tryz.prog (Tryz.f5.params.toList++(OpenSpec.ofChange Rows.rightsAppliesSpec).bare.plain.varTypes Tryz.prog) (ds++D)).all (·<=reachBytes)=true) (J:laidMetH Tryz.prog Rows.rightsAppliesRow.laid W) :
  Calls Tryz.prog 5 args W fun e I=>∃ v,e=.returned v/\Rows.rightsAppliesSpec.post enc Tryz.prog Tryz.f5 false true false false W args v I:=
 have G:n9 W:=Q5 (by kernel_rfl) J
 L9 (g:=ah) (γ:=dK) (m:=12) rfl RS (s:=Rows.rightsAppliesSpec) rfl (by kernel_rfl) (by kernel_rfl) (by kernel_rfl) (fun ds h=>by rw [Tryz.params5] at h;exact match ds,h with|[_,_,_,_,_,_,_],_=>rfl) y hW z G (Q2 G) walk
def L8(os:Os):laidMet Tryz.prog Rows.rightsAppliesRow.laid (((zL os)).forCall (fun _ _=>0) ⟨#[],#[.agg #[.slice none 0 0,.slice none 0 0,.slice none 0 0,.slice none 0 0,.slice none 0 0,.slice none 0 0,.slice none 0 0],.agg #[.slice none 0 0,.slice none 0 0,.slice none 0 0,.slice none 0 0],.slice none 0 0,.slice none 0 0,.agg #[.int .i64 0,.int .i64 0,.int .i64 0,.slice none 0 0,.int .i64 0,.int .i64 0,.int .i64 0,.int .i64 0,.int .i64 0,.int .i64 0,.int .i64 0,.int .i64 0,.int .i64 0],.int .i64 0,.int .i64 0],[]⟩).memory:=
 laidMet_of_run' 8 (by kernel_rfl) (by kernel_rfl)
def reads(os:Os){H:Type}(enc:TypeId×Value->H):∃u,DataW.whole enc Tryz.prog (((zL os)).forCall (fun _ _=>0) ⟨#[],#[.agg #[.slice none 0 0,.slice none 0 0,.slice none 0 0,.slice none 0 0,.slice none 0 0,.slice none 0 0,.slice none 0 0],.agg #[.slice none 0 0,.slice none 0 0,.slice none 0 0,.slice none 0 0],.slice none 0 0,.slice none 0 0,.agg #[.int .i64 0,.int .i64 0,.int .i64 0,.slice none 0 0,.int .i64 0,.int .i64 0,.int .i64 0,.int .i64 0,.int .i64 0,.int .i64 0,.int .i64 0,.int .i64 0,.int .i64 0],.int .i64 0,.int .i64 0],[]⟩).memory Tryz.f5.params.toList Rows.rightsAppliesSpec.vars false (#[.agg #[.slice none 0 0,.slice none 0 0,.slice none 0 0,.slice none 0 0,.slice none 0 0,.slice none 0 0,.slice none 0 0],.agg #[.slice none 0 0,.slice none 0 0,.slice none 0 0,.slice none 0 0],.slice none 0 0,.slice none 0 0,.agg #[.int .i64 0,.int .i64 0,.int .i64 0,.slice none 0 0,.int .i64 0,.int .i64 0,.int .i64 0,.int .i64 0,.int .i64 0,.int .i64 0,.int .i64 0,.int .i64 0,.int .i64 0],.int .i64 0,.int .i64 0]:Array Value).toList 8=some ([.agg [.nil,.nil,.nil,.nil,.nil,.nil,.nil],.agg [.nil,.nil,.nil,.nil],.nil,.nil,.agg [.lit (.int .i64 0),.lit (.int .i64 0),.lit (.int .i64 0),.nil,.lit (.int .i64 0),.lit (.int .i64 0),.agg [.agg [.lit (.int .i64 0),.lit (.int .i64 0),.lit (.int .i64 0)],.lit (.int .i64 0)],.lit (.int .i64 0),.lit (.int .i64 0),.lit (.int .i64 0)],.lit (.int .i64 0),.lit (.int .i64 0)],[],u):=
 ⟨[],by kernel_rfl⟩
set_option maxRecDepth 100000 in
theorem lifted (os:Os) (u:os.Started) (H:Type) (enc:TypeId×Value->H) (F:Stop.Interp) :
  ReturnsInHanded {} Tryz.checked os 5 .any ((OpenSpec.ofChange Rows.rightsAppliesSpec).preRow enc Tryz.prog Tryz.f5 Rows.rightsAppliesRow.domain false Rows.rightsAppliesRow.laid) (((OpenSpec.ofChange Rows.rightsAppliesSpec).at F).post enc Tryz.prog Tryz.f5 false true false false):=by
 obtain ⟨D,Z⟩:=reads os enc
 refine returnsInHanded_of_row (C:=Tryz.checked) (s:=OpenSpec.ofChange Rows.rightsAppliesSpec) own u (by kernel_rfl) Tryz.func5
  (witness_row_atRef (enc:=enc) (C:=Tryz.checked) false (zL os) #[.agg #[.slice none 0 0,.slice none 0 0,.slice none 0 0,.slice none 0 0,.slice none 0 0,.slice none 0 0,.slice none 0 0],.agg #[.slice none 0 0,.slice none 0 0,.slice none 0 0,.slice none 0 0],.slice none 0 0,.slice none 0 0,.agg #[.int .i64 0,.int .i64 0,.int .i64 0,.slice none 0 0,.int .i64 0,.int .i64 0,.int .i64 0,.int .i64 0,.int .i64 0,.int .i64 0,.int .i64 0,.int .i64 0,.int .i64 0],.int .i64 0,.int .i64 0] rfl (by kernel_rfl) (by kernel_rfl) (by kernel_rfl)
   (OpenSpec.preRow_of_cond 8 Z (by kernel_rfl) (fun k V=>by cases V) (by kernel_rfl) (L8 os))) ?_
 intro W base y ds I v z U _ _ G J hS _;exact s9 H enc W base y ds I v z U G J
end Go.Proofs.YtjolgbkkocjpgaaGreatDoor.rightsApplies
