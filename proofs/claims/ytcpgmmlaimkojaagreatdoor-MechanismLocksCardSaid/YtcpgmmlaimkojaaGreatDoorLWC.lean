/- Law 27: Writer,Element,Elements answer as the reference does. No condition. -/
import Derived.Test.YtcpgmmlaimkojaaGreatDoorLWA
import Derived.Test.YtcpgmmlaimkojaaGreatDoorRPI
set_option linter.unusedSimpArgs false
set_option linter.unusedVariables false
set_option linter.unusedSectionVars false
namespace Go.Proofs.YtcpgmmlaimkojaaGreatDoor
open Go.RowKit
set_option maxRecDepth 100000
set_option maxHeartbeats 32000000
theorem lawlocks_c {m:Md} {p:Pln} {i k:Int} (hm:MdL m) (hp:PlL p):Cl cfg 4 [.t (mdA m),.t (plA p),.t (.int .i64 i),.t (.int .i64 k)] [] (.t (.bool true)) []:=by
 have kf:=lfew_c hm hp
 have ka:=lawake_c
 cases hF:fewP m p with
 | false=>
  rw [hF] at kf
  unfold plA at kf ⊢
  rw [mdA_eq,plC_eq] at kf ⊢
  refine Cl.of_body rfl Tryz.func4 rfl rfl rfl ?_
  exact drv
 | true=>
  have W:=few_w hm hp hF
  have k1:=pWriter_c (i:=i) (k:=k) W
  have k2:=rWriter_c (i:=i) (k:=k) W
  have k3:=pElement_c (i:=i) (k:=k) W
  have k4:=rElement_c (i:=i) (k:=k) W
  have k5:=pElements_c (i:=i) W
  have k6:=rElements_c (i:=i) W
  rw [hF] at kf
  obtain ⟨a,ha⟩:∃ b,(okP m p i k && writeB m (lckAt p i) k)=b:=⟨_,rfl⟩
  obtain ⟨n,hn⟩:∃ b,(if okP m p i k=true then elemL m (lckAt p i) k else 0)=b:=⟨_,rfl⟩
  obtain ⟨n',hn'⟩:∃ b,elemsP m p i=b:=⟨_,rfl⟩
  rw [ha] at k1 k2
  rw [hn] at k3 k4
  rw [hn'] at k5 k6
  obtain ⟨b,hb⟩:∃ b,okP m p i k=b:=⟨_,rfl⟩
  rw [hb] at k1 k2 k3 k4
  clear ha hn hn' hb W hF
  unfold plA at kf k1 k2 k3 k4 k5 k6 ⊢
  rw [mdA_eq,plC_eq] at kf k1 k2 k3 k4 k5 k6 ⊢
  refine Cl.of_body rfl Tryz.func4 rfl rfl rfl ?_
  cases a with
  | true=>cases b with
   | true=>
    exact drv
   | false=>
    exact drv
  | false=>cases b with
   | true=>
    exact drv
   | false=>
    exact drv
end Go.Proofs.YtcpgmmlaimkojaaGreatDoor
