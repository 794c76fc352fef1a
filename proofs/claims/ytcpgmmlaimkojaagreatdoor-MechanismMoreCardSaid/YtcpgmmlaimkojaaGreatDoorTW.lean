/- Law 52: clocks compared;sessions' clocks. No condition. -/
import Derived.Test.YtcpgmmlaimkojaaGreatDoorTX
import Derived.Test.YtcpgmmlaimkojaaGreatDoorTS
set_option linter.unusedSimpArgs false
set_option linter.unusedVariables false
set_option linter.unusedSectionVars false
namespace Go.Proofs.YtcpgmmlaimkojaaGreatDoor
open Go.RowKit
set_option maxRecDepth 100000
end Go.Proofs.YtcpgmmlaimkojaaGreatDoor
namespace Go.Proofs.YtcpgmmlaimkojaaGreatDoor
open Go.RowKit
set_option maxRecDepth 100000
def idxS {α:Type} (p:α→Bool):List α→Int→Int
 | [],_ => -1
 | x::xs,i=>if p x then i else idxS p xs (i+1)
theorem idxS_cons {α:Type} (p:α→Bool) (x:α) (xs:List α) (i:Int):idxS p (x::xs) i=if p x then i else idxS p xs (i+1):=rfl
theorem drop_at {α:Type} {xs:List α} {k:Nat} {x:α} (h:xs[k]?=some x):xs.drop k=x::xs.drop (k+1):=by
 obtain ⟨h1,rfl⟩:=List.getElem?_eq_some_iff.1 h
 exact List.drop_eq_getElem_cons h1
theorem idxS_any {α:Type} (p:α→Bool):∀ (xs:List α) (i:Int),0≤i→decide (0≤idxS p xs i)=xs.any p
 | [],i,_=>rfl
 | x::xs,i,h=>by
  unfold idxS
  cases hp:p x with
  | true=>simp [hp,h]
  | false=>simp only [List.any_cons,hp,Bool.false_or];exact idxS_any p xs (i+1) (by omega)
theorem equalint_c {xs ys:List Int} (hl:xs.length≤140737488351232) (hm:ys.length≤140737488351232):Cl cfg 25 [.t (intsA xs),.t (intsA ys)] [] (.t (.bool (xs == ys))) []:=by
 refine Cl.of_body rfl Tryz.func25 rfl rfl rfl ?_
 by_cases hlen:xs.length=ys.length
 ·
  refine drvR ?_
  refine EvL.ind (fun q:Nat=>[(13,.t (.int .i64 (q:Int)))]) (fun q=>q≤xs.length∧xs.take q=ys.take q) (fun q=>xs.length - q) 0 rfl (by simp) (fun q hq=>?_)
  obtain ⟨h1,h2⟩:=hq
  rcases Nat.lt_or_ge q xs.length with h3|h3
  ·
   obtain ⟨n,hn⟩:=get_of_lt h3
   obtain ⟨m,hm'⟩:=get_of_lt (xs:=ys) (k:=q) (by omega)
   have hc:=intsE_get hn
   have hd:=intsE_get hm'
   repeat' (first
|(with_reducible first|apply EvK.seq|apply EvK.block)
|((with_reducible apply EvK.text);(try case hm=>exact rfl))
|((with_reducible apply EvK.drawn);(case hm=>exact rfl))
|(with_reducible first|apply EvK.skip|apply EvK.ret|apply thenK_n|apply thenK_r|apply blockK_n|apply blockK_r)
|((with_reducible apply EvK.cond_t);(case hc=>exact rfl))
|((with_reducible apply EvK.cond_f);(case hc=>exact rfl))
|((with_reducible apply EvO.spd_t);(case hp=>exact fao))
|((with_reducible apply EvO.spn) <;> intro hq)
|(with_reducible apply EvO.nilT)
|((with_reducible apply EvO.u0);(case hx=>exact opq))
|fail)
   all_goals first
    | (refine fin_b (.inr rfl) rfl ?_)
    | (refine ⟨q+1,rfl,rfl,⟨by omega,?_⟩,by omega⟩)
   all_goals first
    | (rw [List.take_add_one,List.take_add_one,h2,hn,hm'];simp_all;done)
    | (symm;rw [beq_eq_false_iff_ne];rintro rfl;rw [hn] at hm';cases hm';omega)
  ·
   rw [List.take_of_length_le h3,List.take_of_length_le (by omega)] at h2
   repeat' (first
|(with_reducible apply EvK.seq)
|((with_reducible apply EvK.text);(try case hm=>exact rfl))
|(with_reducible first|apply EvK.exit|apply EvK.ret|apply thenK_n|apply thenK_e|apply blockK_h)
|((with_reducible apply EvK.cond_f);(case hc=>exact rfl))
|((with_reducible apply EvO.spd_f);(case hp=>exact fao))
|(with_reducible apply EvO.nilT)
|((with_reducible apply EvO.u0);(case hx=>exact opq))
|fail)
   all_goals (refine fin_b (.inr rfl) rfl ?_;rw [h2];simp)
 ·
  refine drvR ?_
  all_goals (refine fin_b (.inr rfl) rfl ?_;symm;rw [beq_eq_false_iff_ne];rintro rfl;exact hlen rfl)
end Go.Proofs.YtcpgmmlaimkojaaGreatDoor
namespace Go.Proofs.YtcpgmmlaimkojaaGreatDoor
open Go.RowKit
set_option maxRecDepth 100000
theorem need_g:cfg.P.eqGuardType cfg.P.depth 51=false:=by kernel_rfl
end Go.Proofs.YtcpgmmlaimkojaaGreatDoor
namespace Go.Proofs.YtcpgmmlaimkojaaGreatDoor
open Go.RowKit
set_option maxRecDepth 100000
set_option maxHeartbeats 4000000
section
variable (e:Ev) (a gk gi ge ga to pl se:Int)
end
theorem need_eq2 (a b c d a' b' c' d':Int):eqC cfg.P 20 51 [.int .i64 a,.int .i64 b,.int .i64 c,.int .i64 d] [.int .i64 a',.int .i64 b',.int .i64 c',.int .i64 d']=some ((decide (a=a') && (decide (b=b') && (decide (c=c') && true))) && (decide (d=d') && true)):=by kernel_rfl
end Go.Proofs.YtcpgmmlaimkojaaGreatDoor
namespace Go.Proofs.YtcpgmmlaimkojaaGreatDoor
open Go.RowKit
set_option maxRecDepth 100000
set_option maxHeartbeats 2000000
end Go.Proofs.YtcpgmmlaimkojaaGreatDoor
namespace Go.Proofs.YtcpgmmlaimkojaaGreatDoor
open Go.RowKit
set_option maxRecDepth 100000
set_option maxHeartbeats 4000000
end Go.Proofs.YtcpgmmlaimkojaaGreatDoor
namespace Go.Proofs.YtcpgmmlaimkojaaGreatDoor
open Go.RowKit
set_option maxRecDepth 100000
set_option maxHeartbeats 4000000
end Go.Proofs.YtcpgmmlaimkojaaGreatDoor
namespace Go.Proofs.YtcpgmmlaimkojaaGreatDoor
open Go.RowKit
set_option maxRecDepth 100000
set_option maxHeartbeats 4000000
end Go.Proofs.YtcpgmmlaimkojaaGreatDoor
namespace Go.Proofs.YtcpgmmlaimkojaaGreatDoor
open Go.RowKit
set_option maxRecDepth 100000
set_option maxHeartbeats 4000000
end Go.Proofs.YtcpgmmlaimkojaaGreatDoor
namespace Go.Proofs.YtcpgmmlaimkojaaGreatDoor
open Go.RowKit
set_option maxRecDepth 100000
set_option maxHeartbeats 4000000
end Go.Proofs.YtcpgmmlaimkojaaGreatDoor
