/- What the reference's plans ask of actions,as contracts. No condition. -/
import Derived.Test.YtcpgmmlaimkojaaGreatDoorTRB
set_option linter.unusedSimpArgs false
set_option linter.unusedVariables false
set_option linter.unusedSectionVars false
namespace Go.Proofs.YtcpgmmlaimkojaaGreatDoor
open Go.RowKit
set_option maxRecDepth 100000
set_option maxHeartbeats 32000000
section
variable {m:Md} {p:Pln} {i k:Int} {L:Lck}
theorem rpart_c (hp:PlL p) (h0:0≤i) (hg:p.locks[i.toNat]?=some L):Cl cfg 63 [.t (plA p),.t (.int .i64 i),.t (.int .i64 k)] [] (.t (.bool (partB L k))) []:=by
 have hlK:=lkE_len p.locks
 have h1k:=hp.locks
 have hmem:=hp.mem L (List.mem_of_getElem? hg)
 have hc:=lkE_get hg
 have hlM:=mbE_len L.mem
 have hlt:=(List.getElem?_eq_some_iff.1 hg).1
 have e0:partB L k=(L.mem.drop 0).any fun x=>decide (x.act=k):=rfl
 rw [e0]
 unfold plA
 rw [plC_eq]
 refine Cl.of_body rfl Tryz.func63 rfl rfl rfl ?_
 refine drvR ?_
 refine EvL.ind (fun q:Nat=>[(7,.t (.int .i64 (q:Int)))]) (fun q=>q≤L.mem.length∧((L.mem.drop 0).any fun x=>decide (x.act=k))=(L.mem.drop q).any fun x=>decide (x.act=k)) (fun q=>L.mem.length - q) 0 rfl ⟨by omega,rfl⟩ (fun q hq=>?_)
 obtain ⟨h1,h2⟩:=hq
 rw [h2]
 rcases Nat.lt_or_ge q L.mem.length with h3|h3
 ·
  obtain ⟨x,hx⟩:=get_of_lt h3
  have hcx:=mbE_get hx
  rw [any_hit (fun x:Mem=>decide (x.act=k)) hx]
  by_cases he:x.act=k
  ·
   rw [decide_eq_true he,Bool.true_or]
   exact drv
  ·
   rw [decide_eq_false he,Bool.false_or]
   exact drv
 ·
  rw [any_end _ h3]
  exact drv
theorem rwrites_c (hm:MdL m) (hp:PlL p) (h0:0≤i) (hg:p.locks[i.toNat]?=some L) (hk:inActs m k=true):Cl cfg 64 [.t (mdA m),.t (plA p),.t (.int .i64 i),.t (.int .i64 k)] [] (.t (.bool (writeB m L k))) []:=by
 have hlK:=lkE_len p.locks
 have h1k:=hp.locks
 have hc:=lkE_get hg
 have hlt:=(List.getElem?_eq_some_iff.1 hg).1
 have hlA:=acE_len m.acts
 have hma:=hm.acts
 obtain ⟨k0,k1⟩:=inActs_iff.1 hk
 obtain ⟨a,ha⟩:=get_of_lt (xs:=m.acts) (k:=k.toNat) (by omega)
 have hca:=acE_get ha
 unfold writeB
 rw [opAt_get ha]
 unfold plA
 rw [mdA_eq,plC_eq]
 refine Cl.of_body rfl Tryz.func64 rfl rfl rfl ?_
 by_cases he:a.op=L.b
 ·
  rw [decide_eq_true he]
  exact drv
 ·
  rw [decide_eq_false he]
  exact drv
theorem rof_c (hm:MdL m) (hp:PlL p) (hv:modelB m=true) (h0:0≤i) (hg:p.locks[i.toNat]?=some L) (hL:LockOk m L) (hpt:partB L k=true):Cl cfg 66 [.t (mdA m),.t (plA p),.t (.int .i64 i),.t (.int .i64 k)] [] (.t (.int .i64 (elemL m L k))) []:=by
 have hlK:=lkE_len p.locks
 have h1k:=hp.locks
 have hc:=lkE_get hg
 have hlt:=(List.getElem?_eq_some_iff.1 hg).1
 have hlA:=acE_len m.acts
 have hma:=hm.acts
 obtain ⟨hk,ho⟩:=hL.part hpt
 obtain ⟨k0,k1⟩:=inActs_iff.1 hk
 have ha:=act_at hk
 obtain ⟨a,hae⟩:∃ a,m.acts.getD k.toNat zActn=a:=⟨_,rfl⟩
 rw [hae] at ha
 have hca:=acE_get ha
 have hop:opAt m k=a.op:=opAt_get ha
 have hlg:=intsE_len a.args
 rw [hL.elem]
 unfold plA
 rw [mdA_eq,plC_eq]
 rcases hL.par_cases with ⟨p1,p2⟩|⟨⟨p1,p1'⟩,⟨p2,p2'⟩,_⟩
 ·
  have e1:(if opAt m k=L.a then L.pa else L.pb) < 0:=by split <;> omega
  rw [if_pos e1]
  refine Cl.of_body rfl Tryz.func66 rfl rfl rfl ?_
  by_cases he:a.op=L.a
  ·
   exact drv
  ·
   exact drv
 ·
  have e1:¬ (if opAt m k=L.a then L.pa else L.pb) < 0:=by split <;> omega
  rw [if_neg e1]
  by_cases he:opAt m k=L.a
  ·
   rw [if_pos he]
   have hg:=arg_get hv hk (i:=L.pa) p1 (by rw [he];exact p1')
   rw [hae] at hg
   have hgc:=intsE_get hg
   rw [hop] at he
   obtain ⟨v,hv'⟩:∃ v,argAt m k L.pa=v:=⟨_,rfl⟩
   rw [hv'] at hgc ⊢
   refine Cl.of_body rfl Tryz.func66 rfl rfl rfl ?_
   exact drv
  ·
   rw [if_neg he]
   have hb:opAt m k=L.b:=by omega
   have hg:=arg_get hv hk (i:=L.pb) p2 (by rw [hb];exact p2')
   rw [hae] at hg
   have hgc:=intsE_get hg
   rw [hop] at he
   obtain ⟨v,hv'⟩:∃ v,argAt m k L.pb=v:=⟨_,rfl⟩
   rw [hv'] at hgc ⊢
   refine Cl.of_body rfl Tryz.func66 rfl rfl rfl ?_
   exact drv
end
end Go.Proofs.YtcpgmmlaimkojaaGreatDoor
