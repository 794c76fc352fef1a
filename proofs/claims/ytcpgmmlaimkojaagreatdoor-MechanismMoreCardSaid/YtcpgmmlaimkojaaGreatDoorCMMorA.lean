/- MechanismMore: what is called answers true at every input,and leaves its arguments as they were. Conditions: none but the card's own (the listed variables stand as the program's text lays them). -/
import Derived.Test.YtcpgmmlaimkojaaGreatDoorXLG
import Derived.Test.YtcpgmmlaimkojaaGreatDoorVSR
import Derived.Test.YtcpgmmlaimkojaaGreatDoorLWK
set_option linter.unusedSimpArgs false
set_option linter.unusedVariables false
set_option linter.unusedSectionVars false
namespace Go.Proofs.YtcpgmmlaimkojaaGreatDoor.mechanismMore
open Go.ChangeShapes Go.WideShapes Go.ChangeAt Go.RowKit
set_option maxRecDepth 100000 in
theorem walk (xs:List AV) (h:Args Tryz.prog 12 Tryz.f9.params.toList xs) (hr:∀ (j:Nat) (t:TypeId) (n:Int),xs[j]?=some (.int .i64 n)→Tryz.f9.params[j]?=some t→Tryz.prog.underlying t=some (.int .i64) → -9223372036854775808≤n∧n≤9223372036854775807):Cl cfg 9 (xs.map .t) [] (.t (.bool true)) []:=by
 rw [Tryz.params9] at h
 obtain ⟨x0,_,rfl,h0,x1,_,rfl,h1,x2,_,rfl,h2,x3,_,rfl,h3,x4,_,rfl,h4,rfl⟩:=h
 obtain ⟨m,rfl,hm⟩:=arg_model h0
 obtain ⟨p,rfl,hp⟩:=arg_plan h1
 obtain ⟨n2,rfl⟩:=arg_int h2
 obtain ⟨n3,rfl⟩:=arg_int h3
 obtain ⟨n4,rfl⟩:=arg_int h4
 exact lawmore_c hm hp (hr 4 3 n4 rfl (by rw [Tryz.params9];rfl) Tryz.underlying3).2
set_option maxRecDepth 100000 in
theorem contract (H:Type) (enc:TypeId×Value→H) (W:World) (base:Nat) (args:Array Value) (ds gs:List (DataW H)) (before:List MemPlace)
  (hval:∀ (j:Nat) t v,Tryz.f9.params[j]?=some t→args[j]?=some v→Value.okWide Tryz.prog W .any base t v)
  (hW:DataW.Whole enc Tryz.prog Tryz.f9.params.toList Rows.mechanismMoreSpec.vars false W args.toList ds gs before) (hsz:(DataW.weightsEach Tryz.prog (Tryz.f9.params.toList++(OpenSpec.ofChange Rows.mechanismMoreSpec).bare.plain.varTypes Tryz.prog) (ds++gs)).all (·≤reachBytes)=true) (hL:laidMetH Tryz.prog Rows.mechanismMoreRow.laid W) :
  Calls Tryz.prog 9 args W fun e W'=>∃ v,e=.returned v∧Rows.mechanismMoreSpec.post enc Tryz.prog Tryz.f9 false true false false W args v W':=
 have hT:TabS W:=tab_of_laid (by kernel_rfl) hL
 law_allR (g:=cfg) (γ:=gamS) (m:=12) rfl wfS (s:=Rows.mechanismMoreSpec) rfl (by kernel_rfl) (by kernel_rfl) (by kernel_rfl) (fun ds h=>by rw [Tryz.params9] at h;exact match ds,h with|[_,_,_,_,_],_=>rfl) hval hW hsz hT (tabS_lt hT) walk
theorem laid_met (os:Os):laidMet Tryz.prog Rows.mechanismMoreRow.laid (((laidWorld os)).forCall (fun _ _=>0) ⟨#[],#[.agg #[.slice none 0 0,.slice none 0 0,.slice none 0 0,.slice none 0 0,.slice none 0 0,.slice none 0 0,.slice none 0 0],.agg #[.slice none 0 0,.slice none 0 0,.slice none 0 0,.slice none 0 0],.int .i64 0,.int .i64 0,.int .i64 0],[]⟩).memory:=
 laidMet_of_run' 8 (by kernel_rfl) (by kernel_rfl)
theorem reads (os:Os) {H:Type} (enc:TypeId×Value→H):∃ places,DataW.whole enc Tryz.prog (((laidWorld os)).forCall (fun _ _=>0) ⟨#[],#[.agg #[.slice none 0 0,.slice none 0 0,.slice none 0 0,.slice none 0 0,.slice none 0 0,.slice none 0 0,.slice none 0 0],.agg #[.slice none 0 0,.slice none 0 0,.slice none 0 0,.slice none 0 0],.int .i64 0,.int .i64 0,.int .i64 0],[]⟩).memory Tryz.f9.params.toList Rows.mechanismMoreSpec.vars false (#[.agg #[.slice none 0 0,.slice none 0 0,.slice none 0 0,.slice none 0 0,.slice none 0 0,.slice none 0 0,.slice none 0 0],.agg #[.slice none 0 0,.slice none 0 0,.slice none 0 0,.slice none 0 0],.int .i64 0,.int .i64 0,.int .i64 0]:Array Value).toList 8=some ([.agg [.nil,.nil,.nil,.nil,.nil,.nil,.nil],.agg [.nil,.nil,.nil,.nil],.lit (.int .i64 0),.lit (.int .i64 0),.lit (.int .i64 0)],[],places):=
 ⟨[],by kernel_rfl⟩
set_option maxRecDepth 100000 in
theorem lifted (os:Os) (started:os.Started) (H:Type) (enc:TypeId×Value→H) (F:Stop.Interp) :
  ReturnsInHanded {} Tryz.checked os 9 .any ((OpenSpec.ofChange Rows.mechanismMoreSpec).preRow enc Tryz.prog Tryz.f9 Rows.mechanismMoreRow.domain false Rows.mechanismMoreRow.laid) (((OpenSpec.ofChange Rows.mechanismMoreSpec).at F).post enc Tryz.prog Tryz.f9 false true false false):=by
 obtain ⟨places,hx⟩:=reads os enc
 refine returnsInHanded_of_row (C:=Tryz.checked) (s:=OpenSpec.ofChange Rows.mechanismMoreSpec) own started (by kernel_rfl) Tryz.func9
  (witness_row_atRef (enc:=enc) (C:=Tryz.checked) false (laidWorld os) #[.agg #[.slice none 0 0,.slice none 0 0,.slice none 0 0,.slice none 0 0,.slice none 0 0,.slice none 0 0,.slice none 0 0],.agg #[.slice none 0 0,.slice none 0 0,.slice none 0 0,.slice none 0 0],.int .i64 0,.int .i64 0,.int .i64 0] rfl (by kernel_rfl) (by kernel_rfl) (by kernel_rfl)
   (OpenSpec.preRow_of_cond 8 hx (by kernel_rfl) (fun k hk=>by cases hk) (by kernel_rfl) (laid_met os))) ?_
 intro W base args ds gs before hval hW _ _ hsz hL hS _
 exact contract H enc W base args ds gs before hval hW hsz hL
end Go.Proofs.YtcpgmmlaimkojaaGreatDoor.mechanismMore
