/- SharesApplies: what is called answers true at every input,and leaves its arguments as they were. Conditions: none but the card's own (the listed variables stand as the program's text lays them). -/
import Derived.Test.YtcgdbhlnkificaaGreatDoorTLG
import Derived.Test.YtcgdbhlnkificaaGreatDoorUZ
import Derived.Test.YtcgdbhlnkificaaGreatDoorVSL
set_option linter.all false
namespace Go.Proofs.YtcgdbhlnkificaaGreatDoor.sharesApplies
open Go.ChangeShapes Go.WideShapes Go.ChangeAt Go.RowKit
set_option maxRecDepth 100000 in
theorem walk (xs:List AV) (h:rY Tryz.prog 12 Tryz.f5.params.toList xs) (Z:∀ (j:Nat) (t e:TypeId) (l:List (List AV)),xs[j]?=some (.arr l)->Tryz.f5.params[j]?=some t->Tryz.prog.underlying t=some (.slice e)->l.length * Tryz.prog.bytesOf e<=140737488351232):Cl aj 5 (xs.map .t) [] (.t (.bool true)) []:=by
 rw [Tryz.params5] at h;obtain ⟨x0,_,rfl,I,x1,_,rfl,h1,x2,_,rfl,h2,x3,_,rfl,h3,x4,_,rfl,h4,x5,_,rfl,J,x6,_,rfl,U,x7,_,rfl,V,rfl⟩:=h;obtain ⟨m,rfl,hm⟩:=Bf I;obtain ⟨p,rfl,hp⟩:=Bh h1;obtain ⟨n2,rfl⟩:=Be h2;obtain ⟨s3,rfl,v,z⟩:=Bi h3;obtain ⟨G,rfl,ab,D⟩:=Hn h4
 have u:G.length * 120<=140737488351232:=by
  have h:=Z 4 57 53 (b8 G) rfl (by rw [Tryz.params5];rfl) (by kernel_rfl);rwa [pn,show Tryz.prog.bytesOf 53=120 by kernel_rfl] at h
 obtain ⟨s5,rfl,y⟩:=R6 J;obtain ⟨n6,rfl⟩:=Be U;obtain ⟨n7,rfl⟩:=Be V;exact Se hm hp v z u D y
set_option maxRecDepth 100000 in
theorem pi (H:Type) (enc:TypeId×Value->H) (W:World) (base:Nat) (args:Array Value) (ds D:List (DataW H)) (u:List MemPlace)
  (y:∀ (j:Nat) t v,Tryz.f5.params[j]?=some t->args[j]?=some v->Value.okWide Tryz.prog W .any base t v)
  (hW:DataW.Whole enc Tryz.prog Tryz.f5.params.toList Rows.sharesAppliesSpec.vars false W args.toList ds D u) (z:(DataW.weightsEach Tryz.prog (Tryz.f5.params.toList++(OpenSpec.ofChange Rows.sharesAppliesSpec).bare.plain.varTypes Tryz.prog) (ds++D)).all (·<=reachBytes)=true) (J:laidMetH Tryz.prog Rows.sharesAppliesRow.laid W) :
  Calls Tryz.prog 5 args W fun e I=>∃ v,e=.returned v/\Rows.sharesAppliesSpec.post enc Tryz.prog Tryz.f5 false true false false W args v I:=
 have G:mT W:=Gs (by kernel_rfl) J
 Sd (g:=aj) (γ:=dB) (m:=12) rfl GQ (s:=Rows.sharesAppliesSpec) rfl (by kernel_rfl) (by kernel_rfl) (by kernel_rfl) (fun ds h=>by rw [Tryz.params5] at h;exact match ds,h with|[_,_,_,_,_,_,_,_],_=>rfl) y hW z G (Gr G) walk
def yI(os:Os):laidMet Tryz.prog Rows.sharesAppliesRow.laid (((rc os)).forCall (fun _ _=>0) ⟨#[],#[.agg #[.slice none 0 0,.slice none 0 0,.slice none 0 0,.slice none 0 0,.slice none 0 0,.slice none 0 0,.slice none 0 0],.agg #[.slice none 0 0,.slice none 0 0,.slice none 0 0,.slice none 0 0],.int .i64 0,.slice none 0 0,.slice none 0 0,.agg #[.int .i64 0,.int .i64 0,.int .i64 0,.slice none 0 0,.int .i64 0,.int .i64 0,.int .i64 0,.int .i64 0,.int .i64 0,.int .i64 0,.int .i64 0,.int .i64 0,.int .i64 0],.int .i64 0,.int .i64 0],[]⟩).memory:=
 laidMet_of_run' 8 (by kernel_rfl) (by kernel_rfl)
def reads(os:Os){H:Type}(enc:TypeId×Value->H):∃u,DataW.whole enc Tryz.prog (((rc os)).forCall (fun _ _=>0) ⟨#[],#[.agg #[.slice none 0 0,.slice none 0 0,.slice none 0 0,.slice none 0 0,.slice none 0 0,.slice none 0 0,.slice none 0 0],.agg #[.slice none 0 0,.slice none 0 0,.slice none 0 0,.slice none 0 0],.int .i64 0,.slice none 0 0,.slice none 0 0,.agg #[.int .i64 0,.int .i64 0,.int .i64 0,.slice none 0 0,.int .i64 0,.int .i64 0,.int .i64 0,.int .i64 0,.int .i64 0,.int .i64 0,.int .i64 0,.int .i64 0,.int .i64 0],.int .i64 0,.int .i64 0],[]⟩).memory Tryz.f5.params.toList Rows.sharesAppliesSpec.vars false (#[.agg #[.slice none 0 0,.slice none 0 0,.slice none 0 0,.slice none 0 0,.slice none 0 0,.slice none 0 0,.slice none 0 0],.agg #[.slice none 0 0,.slice none 0 0,.slice none 0 0,.slice none 0 0],.int .i64 0,.slice none 0 0,.slice none 0 0,.agg #[.int .i64 0,.int .i64 0,.int .i64 0,.slice none 0 0,.int .i64 0,.int .i64 0,.int .i64 0,.int .i64 0,.int .i64 0,.int .i64 0,.int .i64 0,.int .i64 0,.int .i64 0],.int .i64 0,.int .i64 0]:Array Value).toList 8=some ([.agg [.nil,.nil,.nil,.nil,.nil,.nil,.nil],.agg [.nil,.nil,.nil,.nil],.lit (.int .i64 0),.nil,.nil,.agg [.lit (.int .i64 0),.lit (.int .i64 0),.lit (.int .i64 0),.nil,.lit (.int .i64 0),.lit (.int .i64 0),.agg [.agg [.lit (.int .i64 0),.lit (.int .i64 0),.lit (.int .i64 0)],.lit (.int .i64 0)],.lit (.int .i64 0),.lit (.int .i64 0),.lit (.int .i64 0)],.lit (.int .i64 0),.lit (.int .i64 0)],[],u):=
 ⟨[],by kernel_rfl⟩
set_option maxRecDepth 100000 in
theorem lifted (os:Os) (u:os.Started) (H:Type) (enc:TypeId×Value->H) (F:Stop.Interp) :
  ReturnsInHanded {} Tryz.checked os 5 .any ((OpenSpec.ofChange Rows.sharesAppliesSpec).preRow enc Tryz.prog Tryz.f5 Rows.sharesAppliesRow.domain false Rows.sharesAppliesRow.laid) (((OpenSpec.ofChange Rows.sharesAppliesSpec).at F).post enc Tryz.prog Tryz.f5 false true false false):=by
 obtain ⟨D,Z⟩:=reads os enc
 refine returnsInHanded_of_row (C:=Tryz.checked) (s:=OpenSpec.ofChange Rows.sharesAppliesSpec) own u (by kernel_rfl) Tryz.func5
  (witness_row_atRef (enc:=enc) (C:=Tryz.checked) false (rc os) #[.agg #[.slice none 0 0,.slice none 0 0,.slice none 0 0,.slice none 0 0,.slice none 0 0,.slice none 0 0,.slice none 0 0],.agg #[.slice none 0 0,.slice none 0 0,.slice none 0 0,.slice none 0 0],.int .i64 0,.slice none 0 0,.slice none 0 0,.agg #[.int .i64 0,.int .i64 0,.int .i64 0,.slice none 0 0,.int .i64 0,.int .i64 0,.int .i64 0,.int .i64 0,.int .i64 0,.int .i64 0,.int .i64 0,.int .i64 0,.int .i64 0],.int .i64 0,.int .i64 0] rfl (by kernel_rfl) (by kernel_rfl) (by kernel_rfl)
   (OpenSpec.preRow_of_cond 8 Z (by kernel_rfl) (fun k V=>by cases V) (by kernel_rfl) (yI os))) ?_
 intro W base y ds I v z U _ _ G J hS _;exact pi H enc W base y ds I v z U G J
end Go.Proofs.YtcgdbhlnkificaaGreatDoor.sharesApplies
