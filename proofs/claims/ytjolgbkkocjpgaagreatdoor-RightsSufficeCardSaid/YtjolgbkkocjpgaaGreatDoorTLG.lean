/- Law 27: what the claims of this seat share: the settled. No condition. -/
import Derived.Test.YtjolgbkkocjpgaaGreatDoorTXL
import Derived.Test.YtjolgbkkocjpgaaGreatDoorTM
import Derived.Test.YtjolgbkkocjpgaaGreatDoorCards
import Derived.Test.YtjolgbkkocjpgaaGreatDoorTie
import Derived.ChangeBears2
import Derived.Deep.DeepWitnessRowRef
import Derived.Lib.LaidU8
import Derived.Test.YtjolgbkkocjpgaaGreatDoorTKA
set_option linter.all false
namespace Go.Proofs.YtjolgbkkocjpgaaGreatDoor
open Go.ChangeShapes Go.WideShapes Go.ChangeAt Go.RowKit
def own:ownKnob Tryz.prog.godebug=none:=by kernel_rfl
def KZ:(Tryz.prog.globals[0]?).map (·.type)=some 243:=by kernel_rfl
def IW:Tryz.prog.cellsOf 243=256:=by kernel_rfl
def IX:Tryz.prog.cellsOf 5=1:=by kernel_rfl
def Q3:(Rows.laid_strings_asciiSpace:DataW Unit)=Lib.tabData .u8 Lib.asciiSpaceTab:=by kernel_rfl
def Q5{W :World}{l :List (String×DataW Unit)}(hl :(l.filter fun x=>x.1== "strings.asciiSpace")=[("strings.asciiSpace",Rows.laid_strings_asciiSpace)])(h :laidMetH Tryz.prog l W):n9 W :=by
 have h1 :=laidMetH.filter (fun x=>x.1== "strings.asciiSpace") h
 rw[hl,Q3]at h1;exact Lib.tabIs_of_head (rest:=[]) zA KZ Tryz.underlying243 Tryz.underlying5 IX IW h1
noncomputable def zL(os:Os):World:=World.doorLaid Tryz.prog 4000 os
set_option maxRecDepth 100000 in
theorem Il {m:Nat} {x:AV} (h:Arg Tryz.prog (m+9) 35 x):∃ p:Pln,x=aN p/\ml p:=by
 obtain ⟨xs,h1,h2⟩:=h;obtain ⟨p,rfl,u⟩:=Qk h1;simp only [Tryz.underlying35] at h2;cases h2;exact ⟨p,rfl,u⟩
set_option maxRecDepth 100000
def P4{m:Nat}{xs:List AV}(h:aK Tryz.prog (m+3) 38 xs):∃l:List (List Int),xs=[fx l]/\l.length<=17592186044416/\∀c∈l,c.length<=17592186044416:=by
 rw[aK]at h;simp only[Tryz.underlying38]at h;obtain⟨G,rfl,z,y⟩:=h
 obtain⟨l,rfl,u⟩:=tU (f:=fun c=>[ay c]) (R:=fun c=>c.length<=17592186044416) fun c v=>by
  obtain⟨n,rfl,D⟩:=o6 (y c v);exact⟨n,rfl,D⟩
 exact⟨l,rfl,by simpa using z,u⟩
def Ig{m:Nat}{x:AV}(h:Arg Tryz.prog (m+3) 38 x):∃l:List (List Int),x=fx l/\l.length<=17592186044416/\∀c∈l,c.length<=17592186044416:=by
 obtain⟨xs,h1,h2⟩:=h;obtain⟨l,rfl,h3⟩:=P4 h1;simp only[Tryz.underlying38]at h2;cases h2;exact⟨l,rfl,h3⟩
def Ih{m:Nat}{x:AV}(h:Arg Tryz.prog (m+4) 57 x):∃e:Ev,x=bN e/\e.past.length<=17592186044416:=by
 obtain⟨xs,h1,h2⟩:=h;obtain⟨e,rfl,u⟩:=GG h1;simp only[Tryz.underlying57]at h2;exact⟨e,h2,u⟩
def P_{m:Nat}{xs:List AV}(h:aK Tryz.prog (m+5) 60 xs):∃l:List Ev,xs=[.arr (cC l)]/\l.length<=17592186044416/\∀e∈l,e.past.length<=17592186044416:=by
 rw[aK]at h;simp only[Tryz.underlying60]at h;obtain⟨D,rfl,z,y⟩:=h;obtain⟨l,rfl,u⟩:=tU (f:=b8) (R:=fun e=>e.past.length<=17592186044416) fun c v=>GG (y c v);exact⟨l,rfl,by simpa using z,u⟩
def Ii{m:Nat}{x:AV}(h:Arg Tryz.prog (m+5) 60 x):∃l:List Ev,x=.arr (cC l)/\l.length<=17592186044416/\∀e∈l,e.past.length<=17592186044416:=by
 obtain⟨xs,h1,h2⟩:=h;obtain⟨l,rfl,h3,h4⟩:=P_ h1;simp only[Tryz.underlying60]at h2;cases h2;exact⟨l,rfl,h3,h4⟩
end Go.Proofs.YtjolgbkkocjpgaaGreatDoor
