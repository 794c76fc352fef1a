/- Law 27: what the claims of this seat share: the settled. No condition. -/
import Derived.Test.YtcgdbhlnkificaaGreatDoorTXL
import Derived.Test.YtcgdbhlnkificaaGreatDoorTM
import Derived.Test.YtcgdbhlnkificaaGreatDoorCards
import Derived.Test.YtcgdbhlnkificaaGreatDoorTie
import Derived.ChangeBears2
import Derived.Deep.DeepWitnessRowRef
import Derived.Lib.LaidU8
import Derived.Test.YtcgdbhlnkificaaGreatDoorTKA
set_option linter.all false
namespace Go.Proofs.YtcgdbhlnkificaaGreatDoor
open Go.ChangeShapes Go.WideShapes Go.ChangeAt Go.RowKit
def own:ownKnob Tryz.prog.godebug=none:=by kernel_rfl
def JI:(Tryz.prog.globals[0]?).map (·.type)=some 254:=by kernel_rfl
def HT:Tryz.prog.cellsOf 254=256:=by kernel_rfl
def HU:Tryz.prog.cellsOf 5=1:=by kernel_rfl
def PL:(Rows.laid_strings_asciiSpace:DataW Unit)=Lib.tabData .u8 Lib.asciiSpaceTab:=by kernel_rfl
def Gs{W :World}{l :List (String×DataW Unit)}(hl :(l.filter fun x=>x.1== "strings.asciiSpace")=[("strings.asciiSpace",Rows.laid_strings_asciiSpace)])(h :laidMetH Tryz.prog l W):mT W :=by
 have h1 :=laidMetH.filter (fun x=>x.1== "strings.asciiSpace") h
 rw[hl,PL]at h1;exact Lib.tabIs_of_head (rest:=[]) Rl JI Tryz.underlying254 Tryz.underlying5 HU HT h1
noncomputable def rc(os:Os):World:=World.doorLaid Tryz.prog 4000 os
set_option maxRecDepth 100000 in
theorem Bh {m:Nat} {x:AV} (h:Arg Tryz.prog (m+9) 35 x):∃ p:Pln,x=a_ p/\nO p:=by
 obtain ⟨xs,h1,h2⟩:=h;obtain ⟨p,rfl,u⟩:=OW h1;simp only [Tryz.underlying35] at h2;cases h2;exact ⟨p,rfl,u⟩
set_option maxRecDepth 100000
def OB{m:Nat}{xs:List AV}(h:aJ Tryz.prog (m+3) 55 xs):∃l:List (List Int),xs=[jp l]/\l.length<=17592186044416/\∀c∈l,c.length<=17592186044416:=by
 rw[aJ]at h;simp only[Tryz.underlying55]at h;obtain⟨G,rfl,z,y⟩:=h
 obtain⟨l,rfl,u⟩:=rh (f:=fun c=>[aD c]) (R:=fun c=>c.length<=17592186044416) fun c v=>by
  obtain⟨n,rfl,D⟩:=oM (y c v);exact⟨n,rfl,D⟩
 exact⟨l,rfl,by simpa using z,u⟩
def O1{m:Nat}{xs:List AV}(h:aJ Tryz.prog (m+4) 36 xs):∃l:aO,xs=[p8 l]/\l.length<=17592186044416/\∀x∈l,x.length<=17592186044416/\∀y∈x,y.length<=17592186044416:=by
 rw[aJ]at h;simp only[Tryz.underlying36]at h;obtain⟨I,rfl,D,z⟩:=h
 obtain⟨l,rfl,u⟩:=rh (f:=fun c=>[jp c]) (R:=fun c=>c.length<=17592186044416/\∀y∈c,y.length<=17592186044416) fun c v=>by
  obtain⟨n,rfl,G⟩:=OB (z c v);exact⟨n,rfl,G⟩
 exact⟨l,rfl,by simpa using D,u⟩
def Bi{m:Nat}{x:AV}(h:Arg Tryz.prog (m+4) 36 x):∃l:aO,x=p8 l/\l.length<=17592186044416/\∀x∈l,x.length<=17592186044416/\∀y∈x,y.length<=17592186044416:=by
 obtain⟨xs,h1,h2⟩:=h;obtain⟨l,rfl,h3⟩:=O1 h1;simp only[Tryz.underlying36]at h2;cases h2;exact⟨l,rfl,h3⟩
def R6{m:Nat}{x:AV}(h:Arg Tryz.prog (m+4) 53 x):∃e:Ev,x=c6 e/\e.past.length<=17592186044416:=by
 obtain⟨xs,h1,h2⟩:=h;obtain⟨e,rfl,u⟩:=OJ h1;simp only[Tryz.underlying53]at h2;exact⟨e,h2,u⟩
def OK{m:Nat}{xs:List AV}(h:aJ Tryz.prog (m+5) 57 xs):∃l:List Ev,xs=[.arr (b8 l)]/\l.length<=17592186044416/\∀e∈l,e.past.length<=17592186044416:=by
 rw[aJ]at h;simp only[Tryz.underlying57]at h;obtain⟨D,rfl,z,y⟩:=h;obtain⟨l,rfl,u⟩:=rh (f:=cx) (R:=fun e=>e.past.length<=17592186044416) fun c v=>OJ (y c v);exact⟨l,rfl,by simpa using z,u⟩
def Hn{m:Nat}{x:AV}(h:Arg Tryz.prog (m+5) 57 x):∃l:List Ev,x=.arr (b8 l)/\l.length<=17592186044416/\∀e∈l,e.past.length<=17592186044416:=by
 obtain⟨xs,h1,h2⟩:=h;obtain⟨l,rfl,h3,h4⟩:=OK h1;simp only[Tryz.underlying57]at h2;cases h2;exact⟨l,rfl,h3,h4⟩
end Go.Proofs.YtcgdbhlnkificaaGreatDoor
