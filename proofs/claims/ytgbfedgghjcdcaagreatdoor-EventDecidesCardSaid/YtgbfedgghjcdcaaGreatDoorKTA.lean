/- Lists of events as arguments. No condition. -/
import Derived.Test.YtgbfedgghjcdcaaGreatDoorEF0
import Derived.Test.YtgbfedgghjcdcaaGreatDoorTKA
set_option linter.all false
namespace Go.Proofs.YtgbfedgghjcdcaaGreatDoor
open Go.RowKit
set_option maxRecDepth 100000
def Ht{m:Nat}{xs:List AV}(h:aP Tryz.prog (m+5) 39 xs):∃l:List Ev,xs=[.arr (br l)]/\l.length<=17592186044416/\∀e∈l,e.past.length<=17592186044416:=by
 rw[aP]at h;simp only[Tryz.underlying39]at h;obtain⟨D,rfl,z,y⟩:=h;obtain⟨l,rfl,u⟩:=q_ (f:=dh) (R:=fun e=>e.past.length<=17592186044416) fun c v=>Hs (y c v);exact⟨l,rfl,by simpa using z,u⟩
def Bt{m:Nat}{x:AV}(h:Arg Tryz.prog (m+5) 39 x):∃l:List Ev,x=.arr (br l)/\l.length<=17592186044416/\∀e∈l,e.past.length<=17592186044416:=by
 obtain⟨xs,h1,h2⟩:=h;obtain⟨l,rfl,h3,h4⟩:=Ht h1;simp only[Tryz.underlying39]at h2;cases h2;exact⟨l,rfl,h3,h4⟩
end Go.Proofs.YtgbfedgghjcdcaaGreatDoor
