/- What the reference's plans ask of actions: needs,gifts,slack,exclusion,as contracts. No condition. -/
import Derived.Test.YtcpgmmlaimkojaaGreatDoorRPE
set_option linter.unusedSimpArgs false
set_option linter.unusedVariables false
set_option linter.unusedSectionVars false
namespace Go.Proofs.YtcpgmmlaimkojaaGreatDoor
open Go.RowKit
set_option maxRecDepth 100000
set_option maxHeartbeats 32000000
theorem rexcl_c {m:Md} {p:Pln} {e f:Int} (h:PW m p) (hv:planB m p=true):Cl cfg 76 [.t (mdA m),.t (plA p),.t (.int .i64 e),.t (.int .i64 f)] [] (.t (.bool (exclB m p e f))) []:=by
 have hlK:=lkE_len p.locks
 have h1k:=h.pl.locks
 have hpl:=plan_iff.1 hv
 have kpe:=rplaced_c (p:=p) (k:=e) (by have:=h.pl.places;omega)
 have kpf:=rplaced_c (p:=p) (k:=f) (by have:=h.pl.places;omega)
 have kt:=fun (k:Int) (L:Lck) (q:Nat) (hL:p.locks[q]?=some L)=>rpart_c (k:=k) (i:=(q:Int)) h.pl (by omega) (by rw [Int.toNat_natCast];exact hL)
 have kw:=fun (k:Int) (L:Lck) (q:Nat) (hL:p.locks[q]?=some L) hk=>rwrites_c (k:=k) (i:=(q:Int)) h.md h.pl (by omega) (by rw [Int.toNat_natCast];exact hL) hk
 have ke:=fun (k:Int) (L:Lck) (q:Nat) (hL:p.locks[q]?=some L) hb=>rof_c (k:=k) (i:=(q:Int)) h.md h.pl hpl.model (by omega) (by rw [Int.toNat_natCast];exact hL) (lock_iff.1 (hpl.lock L (List.mem_of_getElem? hL))) hb
 unfold exclB
 obtain ⟨a,ha⟩:∃ b,placedB p e=b:=⟨_,rfl⟩
 obtain ⟨b,hb'⟩:∃ b,placedB p f=b:=⟨_,rfl⟩
 rw [ha] at kpe ⊢
 rw [hb'] at kpf ⊢
 have e0:p.locks.any (exclL m e f)=(p.locks.drop 0).any (exclL m e f):=rfl
 rw [e0]
 unfold plA at kpe kpf kt kw ke ⊢
 rw [mdA_eq] at kw ke ⊢
 rw [plC_eq] at kpe kpf kt kw ke ⊢
 refine Cl.of_body rfl Tryz.func76 rfl rfl rfl ?_
 cases hab:(a && b) with
 | true=>
  rw [Bool.true_or]
  rw [Bool.and_eq_true] at hab
  obtain ⟨rfl,rfl⟩:=hab
  exact drv
 | false=>
  rw [Bool.false_or]
  have hcase:a=false∨(a=true∧b=false):=by cases a <;> cases b <;> simp_all
  rcases hcase with rfl|⟨rfl,rfl⟩
  ·
   refine drvR ?_
   refine EvL.ind (fun q:Nat=>[(9,.t (.int .i64 (q:Int)))]) (fun q=>q≤p.locks.length∧(p.locks.drop 0).any (exclL m e f)=(p.locks.drop q).any (exclL m e f)) (fun q=>p.locks.length - q) 0 rfl ⟨by omega,rfl⟩ (fun q hq=>?_)
   obtain ⟨h1,h2⟩:=hq
   rw [h2]
   rcases Nat.lt_or_ge q p.locks.length with h3|h3
   ·
    obtain ⟨L,hx⟩:=get_of_lt h3
    have hmem:=List.mem_of_getElem? hx
    have hht:=any_hit (exclL m e f) hx
    have hLo:=lock_iff.1 (hpl.lock L hmem)
    have kte:=kt e L q hx
    have ktf:=kt f L q hx
    have kee:=ke e L q hx
    have kef:=ke f L q hx
    have kwe:=kw e L q hx
    have kwf:=kw f L q hx
    rw [hht]
    unfold exclL
    cases hpe:partB L e with
    | false=>
     rw [hpe] at kte
     rw [Bool.false_and,Bool.false_and,Bool.false_or]
     exact drv
    | true=>
     cases hpf:partB L f with
     | false=>
      rw [hpe] at kte
      rw [hpf] at ktf
      rw [Bool.and_false,Bool.false_and,Bool.false_or]
      exact drv
     | true=>
      have kee:=kee hpe
      have kef:=kef hpf
      have kwe:=kwe (hLo.part hpe).1
      have kwf:=kwf (hLo.part hpf).1
      rw [hpe] at kte
      rw [hpf] at ktf
      obtain ⟨x,hxe⟩:∃ x,elemL m L e=x:=⟨_,rfl⟩
      obtain ⟨y,hye⟩:∃ x,elemL m L f=x:=⟨_,rfl⟩
      rw [hxe] at kee ⊢
      rw [hye] at kef ⊢
      obtain ⟨w1,hw1⟩:∃ x,writeB m L e=x:=⟨_,rfl⟩
      obtain ⟨w2,hw2⟩:∃ x,writeB m L f=x:=⟨_,rfl⟩
      rw [hw1] at kwe ⊢
      rw [hw2] at kwf ⊢
      by_cases hxy:x=y
      ·
       rw [decide_eq_true hxy]
       cases w1 with
       | true=>
        exact drv
       | false=>
        cases w2 with
        | true=>
         exact drv
        | false=>
         exact drv
      ·
       rw [decide_eq_false hxy]
       exact drv
   ·
    rw [any_end _ h3]
    exact drv
  ·
   refine drvR ?_
   refine EvL.ind (fun q:Nat=>[(9,.t (.int .i64 (q:Int)))]) (fun q=>q≤p.locks.length∧(p.locks.drop 0).any (exclL m e f)=(p.locks.drop q).any (exclL m e f)) (fun q=>p.locks.length - q) 0 rfl ⟨by omega,rfl⟩ (fun q hq=>?_)
   obtain ⟨h1,h2⟩:=hq
   rw [h2]
   rcases Nat.lt_or_ge q p.locks.length with h3|h3
   ·
    obtain ⟨L,hx⟩:=get_of_lt h3
    have hmem:=List.mem_of_getElem? hx
    have hht:=any_hit (exclL m e f) hx
    have hLo:=lock_iff.1 (hpl.lock L hmem)
    have kte:=kt e L q hx
    have ktf:=kt f L q hx
    have kee:=ke e L q hx
    have kef:=ke f L q hx
    have kwe:=kw e L q hx
    have kwf:=kw f L q hx
    rw [hht]
    unfold exclL
    cases hpe:partB L e with
    | false=>
     rw [hpe] at kte
     rw [Bool.false_and,Bool.false_and,Bool.false_or]
     exact drv
    | true=>
     cases hpf:partB L f with
     | false=>
      rw [hpe] at kte
      rw [hpf] at ktf
      rw [Bool.and_false,Bool.false_and,Bool.false_or]
      exact drv
     | true=>
      have kee:=kee hpe
      have kef:=kef hpf
      have kwe:=kwe (hLo.part hpe).1
      have kwf:=kwf (hLo.part hpf).1
      rw [hpe] at kte
      rw [hpf] at ktf
      obtain ⟨x,hxe⟩:∃ x,elemL m L e=x:=⟨_,rfl⟩
      obtain ⟨y,hye⟩:∃ x,elemL m L f=x:=⟨_,rfl⟩
      rw [hxe] at kee ⊢
      rw [hye] at kef ⊢
      obtain ⟨w1,hw1⟩:∃ x,writeB m L e=x:=⟨_,rfl⟩
      obtain ⟨w2,hw2⟩:∃ x,writeB m L f=x:=⟨_,rfl⟩
      rw [hw1] at kwe ⊢
      rw [hw2] at kwf ⊢
      by_cases hxy:x=y
      ·
       rw [decide_eq_true hxy]
       cases w1 with
       | true=>
        exact drv
       | false=>
        cases w2 with
        | true=>
         exact drv
        | false=>
         exact drv
      ·
       rw [decide_eq_false hxy]
       exact drv
   ·
    rw [any_end _ h3]
    exact drv
theorem rexcluded_c {m:Md} {p:Pln} {e f:Int} (h:PW m p):Cl cfg 29 [.t (mdA m),.t (plA p),.t (.int .i64 e),.t (.int .i64 f)] [] (.t (.bool (planB m p && exclB m p e f))) []:=by
 have kv:=rpv_c h
 have hlA:=acE_len m.acts
 have hma:=h.md.acts
 cases hb:planB m p with
 | false=>
  rw [hb] at kv
  rw [Bool.false_and]
  unfold plA at kv ⊢
  rw [mdA_eq,plC_eq] at kv ⊢
  refine Cl.of_body rfl Tryz.func29 rfl rfl rfl ?_
  exact drv
 | true=>
  have kx:=rexcl_c (e:=e) (f:=f) h hb
  have hpl:=plan_iff.1 hb
  have hin:=fun hx=>hpl.excl_in (e:=e) (f:=f) hx
  rw [hb] at kv
  rw [Bool.true_and]
  obtain ⟨x,hx⟩:∃ b,exclB m p e f=b:=⟨_,rfl⟩
  rw [hx] at kx hin ⊢
  rw [inActs_iff,inActs_iff] at hin
  unfold plA at kv kx ⊢
  rw [mdA_eq,plC_eq] at kv kx ⊢
  refine Cl.of_body rfl Tryz.func29 rfl rfl rfl ?_
  cases x with
  | true=>
   obtain ⟨⟨e0,e1⟩,f0,f1⟩:=hin rfl
   exact drv
  | false=>
   exact drv
end Go.Proofs.YtcpgmmlaimkojaaGreatDoor
