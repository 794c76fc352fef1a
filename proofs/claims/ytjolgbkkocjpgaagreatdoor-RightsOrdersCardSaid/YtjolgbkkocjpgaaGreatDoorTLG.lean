/- Law 27: what the claims of this seat share: the settled program's closed facts,the listed variables;arguments opened. Conditions: the form's own reach. -/
import Derived.Test.YtjolgbkkocjpgaaGreatDoorTXL
import Derived.Test.YtjolgbkkocjpgaaGreatDoorTM
import Derived.Test.YtjolgbkkocjpgaaGreatDoorCards
import Derived.Test.YtjolgbkkocjpgaaGreatDoorTie
import Derived.ChangeBears2
import Derived.Deep.DeepWitnessRowRef
import Derived.Lib.LaidU8
import Derived.Test.YtjolgbkkocjpgaaGreatDoorTKA
set_option linter.defProp false
set_option linter.unusedSimpArgs false
set_option linter.unusedVariables false
set_option linter.unusedSectionVars false
namespace Go.Proofs.YtjolgbkkocjpgaaGreatDoor
open Go.ChangeShapes Go.WideShapes Go.ChangeAt Go.RowKit
def own:ownKnob Tryz.prog.godebug=none:=by kernel_rfl
def Nn:(Tryz.prog.globals[0]?).map (·.type)=some 243:=by kernel_rfl
def Np:Tryz.prog.cellsOf 243=256:=by kernel_rfl
def Nq:Tryz.prog.cellsOf 5=1:=by kernel_rfl
def Nr:(Rows.laid_strings_asciiSpace:DataW Unit)=Lib.tabData .u8 Lib.asciiSpaceTab:=by kernel_rfl
def EH{W :World}{l :List (String×DataW Unit)}(hl :(l.filter fun x=>x.1== "strings.asciiSpace")=[("strings.asciiSpace",Rows.laid_strings_asciiSpace)])(h :laidMetH Tryz.prog l W):m_ W :=by
 have h1 :=laidMetH.filter (fun x=>x.1== "strings.asciiSpace") h
 rw[hl,Nr]at h1;exact Lib.tabIs_of_head (rest:=[]) zr Nn Tryz.underlying243 Tryz.underlying5 Nq Np h1
noncomputable def qT(os:Os):World:=World.doorLaid Tryz.prog 4000 os
set_option maxRecDepth 100000 in
theorem EI {m:Nat} {x:AV} (h:Arg Tryz.prog (m+9) 35 x):∃ p:Pln,x=ba p/\n9 p:=by
 obtain ⟨xs,h1,h2⟩:=h;obtain ⟨p,rfl,u⟩:=Mq h1;simp only [Tryz.underlying35] at h2;cases h2;exact ⟨p,rfl,u⟩
set_option maxRecDepth 100000 in
theorem Ns {m:Nat} {x:AV} (h:Arg Tryz.prog (m+2) 22 x):∃ l:List Int,x=ax l/\l.length<=17592186044416:=by
 obtain ⟨xs,h1,h2⟩:=h;obtain ⟨l,rfl,h3⟩:=mX h1;simp only [Tryz.underlying22] at h2;cases h2;exact ⟨l,rfl,h3⟩
set_option maxRecDepth 100000
def Nt{m:Nat}{xs:List AV}(h:aN Tryz.prog (m+3) 38 xs):∃l:List (List Int),xs=[eZ l]/\l.length<=17592186044416/\∀c∈l,c.length<=17592186044416:=by
 rw[aN]at h;simp only[Tryz.underlying38]at h;obtain⟨G,rfl,z,y⟩:=h
 obtain⟨l,rfl,u⟩:=sE (f:=fun c=>[ax c]) (R:=fun c=>c.length<=17592186044416) fun c v=>by
  obtain⟨n,rfl,D⟩:=mX (y c v);exact⟨n,rfl,D⟩
 exact⟨l,rfl,by simpa using z,u⟩
def Nu{m:Nat}{x:AV}(h:Arg Tryz.prog (m+3) 38 x):∃l:List (List Int),x=eZ l/\l.length<=17592186044416/\∀c∈l,c.length<=17592186044416:=by
 obtain⟨xs,h1,h2⟩:=h;obtain⟨l,rfl,h3⟩:=Nt h1;simp only[Tryz.underlying38]at h2;cases h2;exact⟨l,rfl,h3⟩
def Nv{m:Nat}{xs:List AV}(h:aN Tryz.prog (m+5) 60 xs):∃l:List Ev,xs=[.arr (bL l)]/\l.length<=17592186044416/\∀e∈l,e.past.length<=17592186044416:=by
 rw[aN]at h;simp only[Tryz.underlying60]at h;obtain⟨D,rfl,z,y⟩:=h;obtain⟨l,rfl,u⟩:=sE (f:=c9) (R:=fun e=>e.past.length<=17592186044416) fun c v=>KU (y c v);exact⟨l,rfl,by simpa using z,u⟩
def Nw{m:Nat}{x:AV}(h:Arg Tryz.prog (m+5) 60 x):∃l:List Ev,x=.arr (bL l)/\l.length<=17592186044416/\∀e∈l,e.past.length<=17592186044416:=by
 obtain⟨xs,h1,h2⟩:=h;obtain⟨l,rfl,h3,h4⟩:=Nv h1;simp only[Tryz.underlying60]at h2;cases h2;exact⟨l,rfl,h3,h4⟩
end Go.Proofs.YtjolgbkkocjpgaaGreatDoor
