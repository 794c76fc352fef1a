/- Law 52: the arguments' shapes;the program is one that the evaluator takes;the library's contracts. Conditions: the library's table of powers stands. -/
import Derived.Test.YtcpgmmlaimkojaaGreatDoorTX
import Derived.Test.YtcpgmmlaimkojaaGreatDoorTD
import Derived.Test.YtcpgmmlaimkojaaGreatDoorShelf
import Derived.Test.YtcpgmmlaimkojaaGreatDoorTW
set_option linter.unusedSimpArgs false
set_option linter.unusedVariables false
set_option linter.unusedSectionVars false
namespace Go.Proofs.YtcpgmmlaimkojaaGreatDoor
open Go.RowKit
set_option maxRecDepth 100000
theorem list_of {α β:Type} {f:α→β} {R:α→Prop}:∀ {es:List β},(∀ c∈es,∃ a,c=f a∧R a)→∃ l:List α,es=l.map f∧∀ a∈l,R a
 | [],_=>⟨[],rfl,fun a h=>by cases h⟩
 | c::es,h=>by
  obtain ⟨a,rfl,ha⟩:=h c List.mem_cons_self
  obtain ⟨l,rfl,hl⟩:=list_of fun c hc=>h c (List.mem_cons_of_mem _ hc)
  refine ⟨a::l,rfl,fun b hb=>?_⟩
  rcases List.mem_cons.1 hb with rfl|hb
  ·exact ha
  ·exact hl b hb
theorem shp_int {m:Nat} {xs:List AV} (h:Shp Tryz.prog (m+1) 3 xs):∃ n,xs=[.int .i64 n]:=by
 simp only [Shp,Tryz.underlying3] at h
 obtain ⟨n,h,_⟩:=h
 exact ⟨n,h⟩
theorem shp_bool {m:Nat} {xs:List AV} (h:Shp Tryz.prog (m+1) 4 xs):∃ n,xs=[.bool n]:=by
 simp only [Shp,Tryz.underlying4] at h
 exact h
theorem shp_ints {m:Nat} {xs:List AV} (h:Shp Tryz.prog (m+2) 22 xs):∃ l:List Int,xs=[intsA l]∧l.length≤17592186044416:=by
 rw [Shp] at h
 simp only [Tryz.underlying22] at h
 obtain ⟨es,rfl,hl,he⟩:=h
 obtain ⟨l,rfl,_⟩:=list_of (f:=fun n=>[AV.int .i64 n]) (R:=fun _=>True) fun c hc=>by
  obtain ⟨n,rfl⟩:=shp_int (he c hc)
  exact ⟨n,rfl,trivial⟩
 exact ⟨l,rfl,by simpa using hl⟩
theorem arg_int {m:Nat} {x:AV} (h:Arg Tryz.prog (m+1) 3 x):∃ n,x=.int .i64 n:=by
 obtain ⟨xs,h1,h2⟩:=h
 obtain ⟨n,rfl⟩:=shp_int h1
 simp only [Tryz.underlying3] at h2
 cases h2
 exact ⟨n,rfl⟩
theorem vr_int {M:Nat→Prop} {w:World} {k:IntKind} {n:Int} {v:Value} (h:VR M w (.int k n) v):v=.int k n:=by cases h;rfl
theorem vr_str {M:Nat→Prop} {w:World} {s:ByteArray} {v:Value} (h:VR M w (.str s) v):v=.string s:=by cases h;rfl
end Go.Proofs.YtcpgmmlaimkojaaGreatDoor
