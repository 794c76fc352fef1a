/- Law 27: Needs,Gives,Slack answer as the reference does. No condition. -/
import Derived.Test.YtcpgmmlaimkojaaGreatDoorLWA
import Derived.Test.YtcpgmmlaimkojaaGreatDoorRPG
set_option linter.unusedSimpArgs false
set_option linter.unusedVariables false
set_option linter.unusedSectionVars false
namespace Go.Proofs.YtcpgmmlaimkojaaGreatDoor
open Go.RowKit
set_option maxRecDepth 100000
set_option maxHeartbeats 32000000
theorem lawneeds_c {m:Md} {p:Pln} {k R:Int} {s:List Int} (hm:MdL m) (hp:PlL p) (hs:s.length≤17592186044416):Cl cfg 5 [.t (mdA m),.t (plA p),.t (.int .i64 k),.t (.int .i64 R),.t (intsA s)] [] (.t (.bool true)) []:=by
 have kf:=lfew_c hm hp
 have ka:=lawake_c
 have hls:=intsE_len s
 cases hF:fewP m p with
 | false=>
  rw [hF] at kf
  unfold plA at kf ⊢
  rw [mdA_eq,plC_eq] at kf ⊢
  refine Cl.of_body rfl Tryz.func5 rfl rfl rfl ?_
  exact drv
 | true=>
  rw [hF] at kf
  have W:=few_w hm hp hF
  have X:=few_x hF
  have B:=few_b hF
  have hfe:p.esc.length≤100000000:=by have:=B.esc;omega
  have n1:=needsL_len m p k R
  have n2:=chgsL_le (m:=m) (k:=k) (sg := -1) p.esc 0
  have n3:(slackL m p s).length=p.esc.length:=by unfold slackL;rw [List.length_map]
  have hB1:=B.esc
  have hB2:=B.locks
  have n0:([]:List Ned).length≤140737488351232:=by simp
  have n0':([]:List Int).length≤140737488351232:=by simp
  rcases Nat.lt_or_ge 150 s.length with h150|h150
  ·
   unfold plA at kf ⊢
   rw [mdA_eq,plC_eq] at kf ⊢
   refine Cl.of_body rfl Tryz.func5 rfl rfl rfl ?_
   exact drv
  ·
   cases ha:inNeeds m p k R with
   | true=>
    by_cases hg:planB m p=true∧inActs m k=true
    ·
     cases hk:inSlack m p s with
     | true=>
      have k1:=pneeds_c W ha hfe
      have k2:=rneeds_c W X ha hfe
      have q1:=sameneed_c (needsL m p k R) (by omega)
      obtain ⟨b,hb⟩:∃ b,placedB p k=b:=⟨_,rfl⟩
      rw [hb] at k1 k2
      obtain ⟨A,hA⟩:∃ b,needsL m p k R=b:=⟨_,rfl⟩
      rw [hA] at k1 k2 q1
      have k3:=pgives_c W hg.1 hg.2 hfe
      have k4:=rgives_c W X hg.1 hg.2 hfe
      have q2:=sameneed_c (chgsL m k (-1) 0 p.esc) (by omega)
      obtain ⟨G,hG⟩:∃ b,chgsL m k (-1) 0 p.esc=b:=⟨_,rfl⟩
      rw [hG] at k3 k4 q2
      have k5:=pslack_c W (by omega) hk hfe
      have k6:=rslack_c W (by omega) hk hfe
      have q3:=sameint_c (slackL m p s) (by omega)
      obtain ⟨S,hS⟩:∃ b,slackL m p s=b:=⟨_,rfl⟩
      rw [hS] at k5 k6 q3
      unfold plA at kf k1 k2 k3 k4 k5 k6 ⊢
      rw [mdA_eq,plC_eq] at kf k1 k2 k3 k4 k5 k6 ⊢
      refine Cl.of_body rfl Tryz.func5 rfl rfl rfl ?_
      cases b with
      | true=>
       exact drv
      | false=>
       exact drv
     | false=>
      have k1:=pneeds_c W ha hfe
      have k2:=rneeds_c W X ha hfe
      have q1:=sameneed_c (needsL m p k R) (by omega)
      obtain ⟨b,hb⟩:∃ b,placedB p k=b:=⟨_,rfl⟩
      rw [hb] at k1 k2
      obtain ⟨A,hA⟩:∃ b,needsL m p k R=b:=⟨_,rfl⟩
      rw [hA] at k1 k2 q1
      have k3:=pgives_c W hg.1 hg.2 hfe
      have k4:=rgives_c W X hg.1 hg.2 hfe
      have q2:=sameneed_c (chgsL m k (-1) 0 p.esc) (by omega)
      obtain ⟨G,hG⟩:∃ b,chgsL m k (-1) 0 p.esc=b:=⟨_,rfl⟩
      rw [hG] at k3 k4 q2
      have k5:=pslack_no W (by omega) hk
      have k6:=rslack_no W (by omega) hk
      have q3:=sameint_c [] n0'
      unfold plA at kf k1 k2 k3 k4 k5 k6 ⊢
      rw [mdA_eq,plC_eq] at kf k1 k2 k3 k4 k5 k6 ⊢
      refine Cl.of_body rfl Tryz.func5 rfl rfl rfl ?_
      cases b with
      | true=>
       exact drv
      | false=>
       exact drv
    ·
     cases hk:inSlack m p s with
     | true=>
      have k1:=pneeds_c W ha hfe
      have k2:=rneeds_c W X ha hfe
      have q1:=sameneed_c (needsL m p k R) (by omega)
      obtain ⟨b,hb⟩:∃ b,placedB p k=b:=⟨_,rfl⟩
      rw [hb] at k1 k2
      obtain ⟨A,hA⟩:∃ b,needsL m p k R=b:=⟨_,rfl⟩
      rw [hA] at k1 k2 q1
      have k3:=pgives_no W hg
      have k4:=rgives_no W hg
      have q2:=sameneed_c [] n0
      have k5:=pslack_c W (by omega) hk hfe
      have k6:=rslack_c W (by omega) hk hfe
      have q3:=sameint_c (slackL m p s) (by omega)
      obtain ⟨S,hS⟩:∃ b,slackL m p s=b:=⟨_,rfl⟩
      rw [hS] at k5 k6 q3
      unfold plA at kf k1 k2 k3 k4 k5 k6 ⊢
      rw [mdA_eq,plC_eq] at kf k1 k2 k3 k4 k5 k6 ⊢
      refine Cl.of_body rfl Tryz.func5 rfl rfl rfl ?_
      cases b with
      | true=>
       exact drv
      | false=>
       exact drv
     | false=>
      have k1:=pneeds_c W ha hfe
      have k2:=rneeds_c W X ha hfe
      have q1:=sameneed_c (needsL m p k R) (by omega)
      obtain ⟨b,hb⟩:∃ b,placedB p k=b:=⟨_,rfl⟩
      rw [hb] at k1 k2
      obtain ⟨A,hA⟩:∃ b,needsL m p k R=b:=⟨_,rfl⟩
      rw [hA] at k1 k2 q1
      have k3:=pgives_no W hg
      have k4:=rgives_no W hg
      have q2:=sameneed_c [] n0
      have k5:=pslack_no W (by omega) hk
      have k6:=rslack_no W (by omega) hk
      have q3:=sameint_c [] n0'
      unfold plA at kf k1 k2 k3 k4 k5 k6 ⊢
      rw [mdA_eq,plC_eq] at kf k1 k2 k3 k4 k5 k6 ⊢
      refine Cl.of_body rfl Tryz.func5 rfl rfl rfl ?_
      cases b with
      | true=>
       exact drv
      | false=>
       exact drv
   | false=>
    by_cases hg:planB m p=true∧inActs m k=true
    ·
     cases hk:inSlack m p s with
     | true=>
      have k1:=pneeds_no W ha
      have k2:=rneeds_no W ha
      have q1:=sameneed_c [] n0
      have k3:=pgives_c W hg.1 hg.2 hfe
      have k4:=rgives_c W X hg.1 hg.2 hfe
      have q2:=sameneed_c (chgsL m k (-1) 0 p.esc) (by omega)
      obtain ⟨G,hG⟩:∃ b,chgsL m k (-1) 0 p.esc=b:=⟨_,rfl⟩
      rw [hG] at k3 k4 q2
      have k5:=pslack_c W (by omega) hk hfe
      have k6:=rslack_c W (by omega) hk hfe
      have q3:=sameint_c (slackL m p s) (by omega)
      obtain ⟨S,hS⟩:∃ b,slackL m p s=b:=⟨_,rfl⟩
      rw [hS] at k5 k6 q3
      unfold plA at kf k1 k2 k3 k4 k5 k6 ⊢
      rw [mdA_eq,plC_eq] at kf k1 k2 k3 k4 k5 k6 ⊢
      refine Cl.of_body rfl Tryz.func5 rfl rfl rfl ?_
      exact drv
     | false=>
      have k1:=pneeds_no W ha
      have k2:=rneeds_no W ha
      have q1:=sameneed_c [] n0
      have k3:=pgives_c W hg.1 hg.2 hfe
      have k4:=rgives_c W X hg.1 hg.2 hfe
      have q2:=sameneed_c (chgsL m k (-1) 0 p.esc) (by omega)
      obtain ⟨G,hG⟩:∃ b,chgsL m k (-1) 0 p.esc=b:=⟨_,rfl⟩
      rw [hG] at k3 k4 q2
      have k5:=pslack_no W (by omega) hk
      have k6:=rslack_no W (by omega) hk
      have q3:=sameint_c [] n0'
      unfold plA at kf k1 k2 k3 k4 k5 k6 ⊢
      rw [mdA_eq,plC_eq] at kf k1 k2 k3 k4 k5 k6 ⊢
      refine Cl.of_body rfl Tryz.func5 rfl rfl rfl ?_
      exact drv
    ·
     cases hk:inSlack m p s with
     | true=>
      have k1:=pneeds_no W ha
      have k2:=rneeds_no W ha
      have q1:=sameneed_c [] n0
      have k3:=pgives_no W hg
      have k4:=rgives_no W hg
      have q2:=sameneed_c [] n0
      have k5:=pslack_c W (by omega) hk hfe
      have k6:=rslack_c W (by omega) hk hfe
      have q3:=sameint_c (slackL m p s) (by omega)
      obtain ⟨S,hS⟩:∃ b,slackL m p s=b:=⟨_,rfl⟩
      rw [hS] at k5 k6 q3
      unfold plA at kf k1 k2 k3 k4 k5 k6 ⊢
      rw [mdA_eq,plC_eq] at kf k1 k2 k3 k4 k5 k6 ⊢
      refine Cl.of_body rfl Tryz.func5 rfl rfl rfl ?_
      exact drv
     | false=>
      have k1:=pneeds_no W ha
      have k2:=rneeds_no W ha
      have q1:=sameneed_c [] n0
      have k3:=pgives_no W hg
      have k4:=rgives_no W hg
      have q2:=sameneed_c [] n0
      have k5:=pslack_no W (by omega) hk
      have k6:=rslack_no W (by omega) hk
      have q3:=sameint_c [] n0'
      unfold plA at kf k1 k2 k3 k4 k5 k6 ⊢
      rw [mdA_eq,plC_eq] at kf k1 k2 k3 k4 k5 k6 ⊢
      refine Cl.of_body rfl Tryz.func5 rfl rfl rfl ?_
      exact drv
end Go.Proofs.YtcpgmmlaimkojaaGreatDoor
