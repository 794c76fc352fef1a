/- The tree evaluator: a law's contract on trees gives what its row asks,and whole numbers among the arguments are in range. No condition. -/
import Derived.Test.YtcpgmmlaimkojaaGreatDoorTD
set_option linter.unusedSimpArgs false
set_option linter.unusedVariables false
set_option linter.unusedSectionVars false
namespace Go.Proofs.YtcpgmmlaimkojaaGreatDoor
open Go.RowKit Go.ChangeShapes Go.WideShapes Go.Deep
theorem range_i64 {P:Program} {W:World} {r:Reach} {b0:Nat} {t:TypeId} {n:Int} (hu:P.underlying t=some (.int .i64)) (h:Value.okWide P W r b0 t (.int .i64 n)) : -9223372036854775808≤n∧n≤9223372036854775807:=by
 simp [Value.okWide,hu,Cell.okWide,Cell.ok,IntKind.has] at h
 have e1:IntKind.i64.min = -9223372036854775808:=rfl
 have e2:IntKind.i64.max=9223372036854775807:=rfl
 constructor <;> omega
section
variable {H:Type} {enc:TypeId×Value→H} {P:Program} {W:World}
set_option maxRecDepth 100000 in
theorem law_allR {m b0:Nat} {g:Cfg} {γ:Glob} (hP:g.P=Tryz.prog) (hWf:Wf g γ) {F:FuncId} {f:Func} {s:ChangeSpec} {args:Array Value} {ds gs:List (DataW H)} {before:List MemPlace} {ts:List TypeId} (hvars:s.vars=[]) (hrt:f.resultTypes=#[4])
  (hpar:(f.params.toList.all fun t=>Tryz.prog.readableRec t && decide (t < Tryz.prog.types.size))=true) (hty:(f.params.toList.all fun t=>tyOk Tryz.prog m t)=true) (hfn:∀ ds:List (DataW H),ds.length=f.params.toList.length→s.fn H ds={ results:=[.lit (.bool true)],args:=ds })
  (hval:∀ (j:Nat) t v,f.params[j]?=some t→args[j]?=some v→Value.okWide Tryz.prog W .any b0 t v)
  (hW:DataW.Whole enc Tryz.prog f.params.toList s.vars false W args.toList ds gs before) (hsz:(DataW.weightsEach Tryz.prog (f.params.toList++ts) (ds++gs)).all (·≤reachBytes)=true)
  (hG:γ.G W) (hn:γ.n≤W.heap.size) (hlaw:∀ xs,Args Tryz.prog m f.params.toList xs→(∀ (j:Nat) (t:TypeId) (n:Int),xs[j]?=some (.int .i64 n)→f.params[j]?=some t→Tryz.prog.underlying t=some (.int .i64) → -9223372036854775808≤n∧n≤9223372036854775807)→Cl g F (xs.map .t) [] (.t (.bool true)) []) :
  Calls Tryz.prog F args W fun e W'=>∃ v,e=.returned v∧s.post enc Tryz.prog f false true false false W args v W':=by
 have hW':=hW
 obtain ⟨p,q,hA0,hV,rfl,hfz,hnd⟩:=hW
 have hA:DataW.TrodAll enc Tryz.prog W 0 (fun _=>true) true f.params.toList args.toList ds p:=hA0
 obtain ⟨hl,xs,hx,hxv⟩:=args_of f.params.toList args.toList ds p hty (fun j t v h1 h2=>hval j t v (by simpa using h1) (by simpa using h2)) hA (sml_args hsz)
 refine law_close hvars hrt hpar (hfn ds hl) hW' ?_
 rw [← hP]
 refine law_ok hWf (hlaw xs hx fun j t n hj ht hu=>?_) hG hn hxv
 have hlt:j < args.toList.length:=by
  have h1:=lt_of_get hj
  have h2:=hxv.1
  omega
 have hav:=List.getElem?_eq_getElem hlt
 have hr:=hxv.2 j _ _ hj hav
 have he:args.toList[j]=.int .i64 n:=by
  generalize args.toList[j]=z at hr
  cases hr
  rfl
 rw [he] at hav
 exact range_i64 hu (hval j t _ ht (by simpa using hav))
end
end Go.Proofs.YtcpgmmlaimkojaaGreatDoor
