/- Law 52: the reference's Check and Few. No condition. -/
import Derived.Test.YtjdhnoffoknlnaaGreatDoorWN
set_option linter.unusedSimpArgs false
set_option linter.unusedVariables false
set_option linter.unusedSectionVars false
namespace Go.Proofs.YtjdhnoffoknlnaaGreatDoor
open Go.RowKit
set_option maxRecDepth 100000
set_option maxHeartbeats 4000000
def few1 (a:SAct):Bool:=decide (a.cl.length≤8) && decide (a.ev.past.length≤8)
def fewActs (l:List SAct):Bool:=l.all few1 && decide (l.length≤20)
theorem few_c (l:List SAct) (hl:l.length≤140737488351232):Cl cfg 8 [.t (actsA l)] [] (.t (.bool (fewActs l))) []:=by
 refine Cl.of_body rfl Tryz.func8 rfl rfl rfl ?_
 repeat' (first
|(with_reducible first|apply EvK.seq|apply EvK.block)
|((with_reducible apply EvK.text);(try case hm=>exact rfl))
|(with_reducible apply EvO.nilT)
|((with_reducible apply EvO.u0);(case hx=>exact opq))
|fail)
 apply EvK.loopV
 case ho=>exact rfl
 case hp=>exact rfl
 case hl=>exact rfl
 case hs=>exact slt
 refine EvL.ind (fun q:Nat=>[(3,.t (.int .i64 (q:Int)))]) (fun q=>q≤l.length∧(l.take q).all few1=true) (fun q=>l.length - q) 0 rfl (by simp) (fun q hq=>?_)
 obtain ⟨h1,h2⟩:=hq
 rcases Nat.lt_or_ge q l.length with h3|h3
 ·
  obtain ⟨n,hn⟩:=get_of_lt h3
  have hc:=actsE_get hn
  have e1:=intsE_len n.cl
  have e2:=intsE_len n.ev.past
  repeat' (first
|(with_reducible first|apply EvK.seq|apply EvK.block)
|((with_reducible apply EvK.text);(try case hm=>exact rfl))
|(with_reducible first|apply EvK.skip|apply EvK.ret|apply thenK_n|apply thenK_r|apply blockK_n|apply blockK_r)
|((with_reducible apply EvK.cond_t);(case hc=>exact rfl))
|((with_reducible apply EvK.cond_f);(case hc=>exact rfl))
|((with_reducible apply EvO.spd_t);(case hp=>exact fao))
|((with_reducible apply EvO.spd) <;> intro hq)
|((with_reducible apply EvO.spd_y) <;> intro hq)
|(with_reducible apply EvO.nilT)
|((with_reducible apply EvO.gf);(case hW=>exact rfl))
|((with_reducible apply EvO.gt0);(case hW=>exact rfl);(case hx=>exact opq))
|((with_reducible apply EvO.u0);(case hx=>exact opq))
|fail)
  all_goals first
   | (refine fin_b (.inr rfl) rfl ?_)
   | (refine ⟨q+1,rfl,rfl,⟨by omega,all_more h2 hn ?_⟩,by omega⟩)
  all_goals first
   | (rw [fewActs,all_bad hn (by simp [few1];omega)];rfl)
   | (simp [few1];omega)
 ·
  have h4:=all_end h2 h3
  repeat' (first
|(with_reducible apply EvK.seq)
|((with_reducible apply EvK.text);(try case hm=>exact rfl))
|(with_reducible first|apply EvK.exit|apply EvK.ret|apply thenK_n|apply thenK_e|apply blockK_h)
|((with_reducible apply EvK.cond_f);(case hc=>exact rfl))
|((with_reducible apply EvO.spd_f);(case hp=>exact fao))
|((with_reducible apply EvO.spd) <;> intro hq)
|(with_reducible apply EvO.nilT)
|((with_reducible apply EvO.u0);(case hx=>exact opq))
|fail)
  all_goals (refine fin_b (.inr rfl) rfl ?_;rw [fewActs,h4];simp;omega)
end Go.Proofs.YtjdhnoffoknlnaaGreatDoor
