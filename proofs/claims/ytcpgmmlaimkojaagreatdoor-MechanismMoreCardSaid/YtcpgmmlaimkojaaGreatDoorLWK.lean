/- Law 27: a plan with less: joined. No condition. -/
import Derived.Test.YtcpgmmlaimkojaaGreatDoorLWH
import Derived.Test.YtcpgmmlaimkojaaGreatDoorLWI
import Derived.Test.YtcpgmmlaimkojaaGreatDoorLWJ
set_option linter.unusedSimpArgs false
set_option linter.unusedVariables false
set_option linter.unusedSectionVars false
namespace Go.Proofs.YtcpgmmlaimkojaaGreatDoor
open Go.RowKit
set_option maxRecDepth 100000
set_option maxHeartbeats 32000000
theorem lawmore_c {m:Md} {p:Pln} {e f j:Int} (hm:MdL m) (hp:PlL p) (hjm:j≤9223372036854775807):Cl cfg 9 [.t (mdA m),.t (plA p),.t (.int .i64 e),.t (.int .i64 f),.t (.int .i64 j)] [] (.t (.bool true)) []:=by
 have kf:=lfew_c hm hp
 have ka:=lawake_c
 have hlE:=esE_len p.esc
 have hlM:=mbE_len p.places
 have hlK:=lkE_len p.locks
 cases hF:fewP m p with
 | false=>
  rw [hF] at kf
  unfold plA at kf ⊢
  rw [mdA_eq,plC_eq] at kf ⊢
  refine Cl.of_body rfl Tryz.func9 rfl rfl rfl ?_
  exact drv
 | true=>
  have W:=few_w hm hp hF
  have B:=few_b hF
  have hB1:=B.esc
  have hB2:=B.locks
  have hB3:=B.places
  cases hv:planB m p with
  | false=>
   have kr:=rpv_c W
   rw [hF] at kf
   rw [hv] at kr
   unfold plA at kf kr ⊢
   rw [mdA_eq,plC_eq] at kf kr ⊢
   refine Cl.of_body rfl Tryz.func9 rfl rfl rfl ?_
   exact drv
  | true=>
   by_cases h1:0≤j∧j < p.esc.length
   ·exact lawmore_esc (d:=j.toNat) (by omega) hjm hm hp hF hv (by omega)
   ·by_cases h2:0≤j∧j - p.esc.length < p.places.length
    ·exact lawmore_mem (d:=(j - p.esc.length).toNat) (by omega) hjm hm hp hF hv (by omega)
    ·by_cases h3:0≤j∧j - p.esc.length - p.places.length < p.locks.length
     ·exact lawmore_lck (d:=(j - (p.esc.length+p.places.length)).toNat) (by omega) hjm hm hp hF hv (by omega)
     ·have kr:=rpv_c W
      rw [hF] at kf
      rw [hv] at kr
      unfold plA at kf kr ⊢
      rw [mdA_eq,plC_eq] at kf kr ⊢
      refine Cl.of_body rfl Tryz.func9 rfl rfl rfl ?_
      rcases (by omega:j < 0∨(0≤j∧p.esc.length≤j∧(p.places.length:Int)≤j - p.esc.length∧(p.locks.length:Int)≤j - p.esc.length - p.places.length)) with h|⟨h4,h5,h6,h7⟩
      ·
       exact drv
      ·
       exact drv
end Go.Proofs.YtcpgmmlaimkojaaGreatDoor
