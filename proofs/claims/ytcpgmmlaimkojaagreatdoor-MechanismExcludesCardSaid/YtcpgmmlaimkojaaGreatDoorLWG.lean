/- Law 27: Valid,Writer,Element,Elements,Excluded answer as the reference does. No condition. -/
import Derived.Test.YtcpgmmlaimkojaaGreatDoorLWA
import Derived.Test.YtcpgmmlaimkojaaGreatDoorRPH
set_option linter.unusedSimpArgs false
set_option linter.unusedVariables false
set_option linter.unusedSectionVars false
namespace Go.Proofs.YtcpgmmlaimkojaaGreatDoor
open Go.RowKit
set_option maxRecDepth 100000
set_option maxHeartbeats 32000000
theorem lawexcl_c {m:Md} {p:Pln} {e f:Int} (hm:MdL m) (hp:PlL p):Cl cfg 6 [.t (mdA m),.t (plA p),.t (.int .i64 e),.t (.int .i64 f)] [] (.t (.bool true)) []:=by
 have kf:=lfew_c hm hp
 have ka:=lawake_c
 cases hF:fewP m p with
 | false=>
  rw [hF] at kf
  unfold plA at kf ⊢
  rw [mdA_eq,plC_eq] at kf ⊢
  refine Cl.of_body rfl Tryz.func6 rfl rfl rfl ?_
  exact drv
 | true=>
  have W:=few_w hm hp hF
  have kv:=pexcl_c (e:=e) (f:=f) W
  have ks:=pexcl_c (e:=f) (f:=e) W
  have kr:=rexcluded_c (e:=e) (f:=f) W
  rw [hF] at kf
  rw [exclB_comm (e:=f) (f:=e)] at ks
  obtain ⟨b,hb⟩:∃ b,(planB m p && exclB m p e f)=b:=⟨_,rfl⟩
  rw [hb] at kv kr ks
  unfold plA at kf kv kr ks ⊢
  rw [mdA_eq,plC_eq] at kf kv kr ks ⊢
  refine Cl.of_body rfl Tryz.func6 rfl rfl rfl ?_
  cases b with
  | true=>
   exact drv
  | false=>
   exact drv
end Go.Proofs.YtcpgmmlaimkojaaGreatDoor
