/- Law 52: SessionContinues,its arguments opened. No condition. -/
import Derived.Test.YtjdhnoffoknlnaaGreatDoorYH
import Derived.Test.YtjdhnoffoknlnaaGreatDoorCKV
set_option linter.unusedSimpArgs false
set_option linter.unusedVariables false
set_option linter.unusedSectionVars false
namespace Go.Proofs.YtjdhnoffoknlnaaGreatDoor
open Go.RowKit
set_option maxRecDepth 100000
theorem arg_u8 {m:Nat} {x:AV} (h:Arg Tryz.prog (m+1) 5 x):∃ n:Int,x=.int .u8 n∧0≤n∧n≤255:=by
 obtain ⟨xs,h1,h2⟩:=h
 simp only [Shp,Tryz.underlying5] at h1
 obtain ⟨k,rfl,hw⟩:=h1
 simp only [Lit.wf,Bool.and_eq_true,decide_eq_true_eq] at hw
 simp only [Tryz.underlying5] at h2
 cases h2
 exact ⟨k,rfl,hw.1,hw.2⟩
theorem law_cont_all (xs:List AV) (h:Args Tryz.prog 8 Tryz.f3.params.toList xs):Cl cfg 3 (xs.map .t) [] (.t (.bool true)) []:=by
 rw [Tryz.params3] at h
 obtain ⟨x0,_,rfl,h0,x1,_,rfl,h1,x2,_,rfl,h2,rfl⟩:=h
 obtain ⟨n,rfl⟩:=arg_int h0
 obtain ⟨l,rfl,hl,hc⟩:=arg_acts h1
 obtain ⟨k,rfl,k0,k1⟩:=arg_u8 h2
 exact law_cont n l k k0 k1 hl hc
end Go.Proofs.YtjdhnoffoknlnaaGreatDoor
