/- Law 27: Valid,Writer,Element,Elements,Excluded answer as the reference does. No condition. -/
import Derived.Test.YtcpgmmlaimkojaaGreatDoorLWA
set_option linter.unusedSimpArgs false
set_option linter.unusedVariables false
set_option linter.unusedSectionVars false
namespace Go.Proofs.YtcpgmmlaimkojaaGreatDoor
open Go.RowKit
set_option maxRecDepth 100000
set_option maxHeartbeats 32000000
theorem lawvalid_c {m:Md} {p:Pln} (hm:MdL m) (hp:PlL p):Cl cfg 3 [.t (mdA m),.t (plA p)] [] (.t (.bool true)) []:=by
 have kf:=lfew_c hm hp
 have ka:=lawake_c
 cases hF:fewP m p with
 | false=>
  rw [hF] at kf
  unfold plA at kf ⊢
  rw [mdA_eq,plC_eq] at kf ⊢
  refine Cl.of_body rfl Tryz.func3 rfl rfl rfl ?_
  exact drv
 | true=>
  have W:=few_w hm hp hF
  have kv:=W.v
  have kr:=rpv_c W
  rw [hF] at kf
  obtain ⟨b,hb⟩:∃ b,planB m p=b:=⟨_,rfl⟩
  rw [hb] at kv kr
  unfold plA at kf kv kr ⊢
  rw [mdA_eq,plC_eq] at kf kv kr ⊢
  refine Cl.of_body rfl Tryz.func3 rfl rfl rfl ?_
  cases b with
  | true=>
   exact drv
  | false=>
   exact drv
end Go.Proofs.YtcpgmmlaimkojaaGreatDoor
