/- Law 32: EventSums,its arguments opened. No condition. -/
import Derived.Test.YtgbfedgghjcdcaaGreatDoorOJ
import Derived.Test.YtgbfedgghjcdcaaGreatDoorKTA
import Derived.Test.YtgbfedgghjcdcaaGreatDoorCKV
set_option linter.unusedSimpArgs false
set_option linter.unusedVariables false
set_option linter.unusedSectionVars false
namespace Go.Proofs.YtgbfedgghjcdcaaGreatDoor
open Go.RowKit
set_option maxRecDepth 100000
theorem arg_u8 {m:Nat} {x:AV} (h:Arg Tryz.prog (m+1) 5 x):∃ n:Int,x=.int .u8 n∧0≤n∧n≤255:=by
 obtain ⟨xs,h1,h2⟩:=h
 simp only [Shp,Tryz.underlying5] at h1
 obtain ⟨k,rfl,hw⟩:=h1
 simp only [Lit.wf,Bool.and_eq_true,decide_eq_true_eq] at hw
 simp only [Tryz.underlying5] at h2
 cases h2
 exact ⟨k,rfl,hw.1,hw.2⟩
theorem law_sums_all (xs:List AV) (h:Args Tryz.prog 12 Tryz.f7.params.toList xs):Cl cfg 7 (xs.map .t) [] (.t (.bool true)) []:=by
 rw [Tryz.params7] at h
 obtain ⟨x0,_,rfl,h0,x1,_,rfl,h1,x2,_,rfl,h2,x3,_,rfl,h3,rfl⟩:=h
 obtain ⟨m,rfl,hm⟩:=arg_model h0
 obtain ⟨c,rfl,hc⟩:=arg_ints h1
 obtain ⟨l,rfl,hl,hp⟩:=arg_evs h2
 obtain ⟨n,rfl,n0,n1⟩:=arg_u8 h3
 exact law_sums hm hm.eff c l n n0 n1 hc hl hp
end Go.Proofs.YtgbfedgghjcdcaaGreatDoor
