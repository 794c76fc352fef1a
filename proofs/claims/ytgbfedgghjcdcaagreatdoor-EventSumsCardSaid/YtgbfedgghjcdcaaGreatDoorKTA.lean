/- Lists of events as arguments. No condition. -/
import Derived.Test.YtgbfedgghjcdcaaGreatDoorEF0
import Derived.Test.YtgbfedgghjcdcaaGreatDoorTKA
set_option linter.unusedSimpArgs false
set_option linter.unusedVariables false
set_option linter.unusedSectionVars false
namespace Go.Proofs.YtgbfedgghjcdcaaGreatDoor
open Go.RowKit
set_option maxRecDepth 100000
theorem shp_evs {m:Nat} {xs:List AV} (h:Shp Tryz.prog (m+5) 39 xs):∃ l:List Ev,xs=[.arr (evsE l)]∧l.length≤17592186044416∧∀ e∈l,e.past.length≤17592186044416:=by
 rw [Shp] at h
 simp only [Tryz.underlying39] at h
 obtain ⟨es,rfl,hl,he⟩:=h
 obtain ⟨l,rfl,hb⟩:=list_of (f:=evCs) (R:=fun e=>e.past.length≤17592186044416) fun c hc=>shp_event (he c hc)
 exact ⟨l,rfl,by simpa using hl,hb⟩
theorem arg_evs {m:Nat} {x:AV} (h:Arg Tryz.prog (m+5) 39 x):∃ l:List Ev,x=.arr (evsE l)∧l.length≤17592186044416∧∀ e∈l,e.past.length≤17592186044416:=by
 obtain ⟨xs,h1,h2⟩:=h
 obtain ⟨l,rfl,h3,h4⟩:=shp_evs h1
 simp only [Tryz.underlying39] at h2
 cases h2
 exact ⟨l,rfl,h3,h4⟩
end Go.Proofs.YtgbfedgghjcdcaaGreatDoor
