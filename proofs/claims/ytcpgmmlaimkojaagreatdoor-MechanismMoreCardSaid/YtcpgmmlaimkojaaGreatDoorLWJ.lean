/- Law 27: a plan with less: locks. No condition. -/
import Derived.Test.YtcpgmmlaimkojaaGreatDoorLWA
import Derived.Test.YtcpgmmlaimkojaaGreatDoorLWM
set_option linter.unusedSimpArgs false
set_option linter.unusedVariables false
set_option linter.unusedSectionVars false
namespace Go.Proofs.YtcpgmmlaimkojaaGreatDoor
open Go.RowKit
set_option maxRecDepth 100000
set_option maxHeartbeats 32000000
theorem lawmore_lck {m:Md} {p:Pln} {e f j:Int} {d:Nat} (hj:j - ((p.esc.length:Int)+(p.places.length:Int))=(d:Int)) (hjm:j≤9223372036854775807) (hm:MdL m) (hp:PlL p) (hF:fewP m p=true) (hv:planB m p=true) (hd:d < p.locks.length):Cl cfg 9 [.t (mdA m),.t (plA p),.t (.int .i64 e),.t (.int .i64 f),.t (.int .i64 j)] [] (.t (.bool true)) []:=by
 have kf:=lfew_c hm hp
 have ka:=lawake_c
 have hlE:=esE_len p.esc
 have hlM:=mbE_len p.places
 have hlK:=lkE_len p.locks
 rw [hF] at kf
 have W:=few_w hm hp hF
 have B:=few_b hF
 have hB1:=B.esc
 have hB2:=B.locks
 have hB3:=B.places
 have hfe:p.esc.length≤100000000:=by omega
 have hpl:=plan_iff.1 hv
 have kr:=rpv_c W
 rw [hv] at kr
 have hq:Less { p with locks:=p.locks.eraseIdx d } p:=less_locks d
 have hqv:planB m { p with locks:=p.locks.eraseIdx d }=true:=plan_iff.2 (hq.ok hpl)
 have Wq:PW m { p with locks:=p.locks.eraseIdx d }:=⟨W.md,W.ef,W.op,hp.less hq⟩
 have hqe:plA { p with locks:=p.locks.eraseIdx d }=.agg [.arr (esE p.esc),.arr (lkE (p.locks.eraseIdx d)),.arr (mbE p.places),intsA p.need]:=rfl
 have kc:=clone_lck (l:=p.locks) (by intro h;rw [h] at hd;simp at hd) (by omega)
 have kd:=del_lck (l:=p.locks) (tch:=false) hd
 rw [← hj] at kd
 have k1:=Wq.v
 rw [hqv] at k1
 have kx1:=pexcl_c (e:=e) (f:=f) Wq
 have kx2:=pexcl_c (e:=e) (f:=f) W
 rw [hqv,Bool.true_and] at kx1
 rw [hv,Bool.true_and] at kx2
 have hx:=imp_two (hq.excl (m:=m) (e:=e) (f:=f))
 obtain ⟨x1,hx1⟩:∃ b,exclB m { p with locks:=p.locks.eraseIdx d } e f=b:=⟨_,rfl⟩
 obtain ⟨x2,hx2⟩:∃ b,exclB m p e f=b:=⟨_,rfl⟩
 rw [hx1] at kx1
 rw [hx2] at kx2
 rw [hx1,hx2] at hx
 cases hin:inActs m e with
 | false=>
  have kn1:=pneeds_no (k:=e) (R:=2) Wq (by unfold inNeeds;rw [hin];simp)
  have kn2:=pneeds_no (k:=e) (R:=2) W (by unfold inNeeds;rw [hin];simp)
  rw [hqe] at k1 kx1 kn1
  obtain ⟨D,hD⟩:∃ D,p.locks.eraseIdx d=D:=⟨_,rfl⟩
  rw [hD] at kd k1 kx1 kn1
  unfold plA at kf kr kx2 kn2 ⊢
  rw [mdA_eq,plC_eq] at kf kr kx2 kn2 ⊢
  rw [mdA_eq] at k1 kx1 kn1
  refine Cl.of_body rfl Tryz.func9 rfl rfl rfl ?_
  rcases hx with rfl|⟨rfl,rfl⟩
  ·
   refine drvR ?_
   refine stepQ ?_
   exact drv
  ·
   refine drvR ?_
   refine stepQ ?_
   exact drv
 | true=>
  have g:=inActs_iff.1 hin
  have hin1:inNeeds m { p with locks:=p.locks.eraseIdx d } e 2=true:=inNeeds_iff.2 ⟨hqv,g,by omega,by omega⟩
  have hin2:inNeeds m p e 2=true:=inNeeds_iff.2 ⟨hv,g,by omega,by omega⟩
  have kn1:=pneeds_c Wq hin1 (by have:=hq.esc.length_le;omega)
  have kn2:=pneeds_c W hin2 hfe
  have hne:=hq.needs (m:=m) (k:=e) (R:=2)
  have hpb:=imp_two (hq.placed (k:=e))
  have n1:=needsL_len m p e 2
  obtain ⟨b1,hb1⟩:∃ b,placedB { p with locks:=p.locks.eraseIdx d } e=b:=⟨_,rfl⟩
  obtain ⟨b2,hb2⟩:∃ b,placedB p e=b:=⟨_,rfl⟩
  obtain ⟨N1,hN1⟩:∃ b,needsL m { p with locks:=p.locks.eraseIdx d } e 2=b:=⟨_,rfl⟩
  obtain ⟨N2,hN2⟩:∃ b,needsL m p e 2=b:=⟨_,rfl⟩
  rw [hb1,hN1] at kn1
  rw [hb2,hN2] at kn2
  rw [hb1,hb2] at hpb
  rw [hN1,hN2] at hne
  rw [hN2] at n1
  have hl1:=ndE_len N1
  have hl2:=ndE_len N2
  rw [hqe] at k1 kx1 kn1
  obtain ⟨D,hD⟩:∃ D,p.locks.eraseIdx d=D:=⟨_,rfl⟩
  rw [hD] at kd k1 kx1 kn1
  unfold plA at kf kr kx2 kn2 ⊢
  rw [mdA_eq,plC_eq] at kf kr kx2 kn2 ⊢
  rw [mdA_eq] at k1 kx1 kn1
  replace kn1:=Lnt.mk kn1
  refine Cl.of_body rfl Tryz.func9 rfl rfl rfl ?_
  rcases hpb with rfl|⟨rfl,rfl⟩
  ·
   rcases hx with rfl|⟨rfl,rfl⟩
   ·
    refine drvR ?_
    refine stepQ ?_
    refine drvR ?_
    refine stepY ?_
    exact drv
   ·
    refine drvR ?_
    refine stepQ ?_
    refine drvR ?_
    refine stepY ?_
    exact drv
  ·
   rcases hx with rfl|⟨rfl,rfl⟩
   ·
    refine drvR ?_
    refine stepQ ?_
    refine drvR ?_
    refine stepY ?_
    exact drv
   ·
    refine drvR ?_
    refine stepQ ?_
    refine drvR ?_
    refine stepY ?_
    exact drv
end Go.Proofs.YtcpgmmlaimkojaaGreatDoor
