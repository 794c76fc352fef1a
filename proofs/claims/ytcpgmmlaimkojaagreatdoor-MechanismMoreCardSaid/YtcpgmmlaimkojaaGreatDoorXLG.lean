/- Law 27: what the claims of this seat share: the settled program's closed facts,the listed variables;arguments opened. Conditions: the form's own reach. -/
import Derived.Test.YtcpgmmlaimkojaaGreatDoorTXL
import Derived.Test.YtcpgmmlaimkojaaGreatDoorTM
import Derived.Test.YtcpgmmlaimkojaaGreatDoorCards
import Derived.Test.YtcpgmmlaimkojaaGreatDoorTie
import Derived.ChangeBears2
import Derived.Deep.DeepWitnessRowRef
import Derived.Lib.LaidU8
set_option linter.unusedSimpArgs false
set_option linter.unusedVariables false
set_option linter.unusedSectionVars false
namespace Go.Proofs.YtcpgmmlaimkojaaGreatDoor
open Go.ChangeShapes Go.WideShapes Go.ChangeAt Go.RowKit
theorem own:ownKnob Tryz.prog.godebug=none:=by kernel_rfl
theorem gTabTypeS:(Tryz.prog.globals[0]?).map (·.type)=some 216:=by kernel_rfl
theorem cellsTabS:Tryz.prog.cellsOf 216=256:=by kernel_rfl
theorem cellsU8S:Tryz.prog.cellsOf 5=1:=by kernel_rfl
theorem tab_data:(Rows.laid_strings_asciiSpace:DataW Unit)=Lib.tabData .u8 Lib.asciiSpaceTab:=by kernel_rfl
theorem tab_of_laid {W : World} {l : List (String × DataW Unit)} (hl : (l.filter fun x => x.1 == "strings.asciiSpace") = [("strings.asciiSpace", Rows.laid_strings_asciiSpace)]) (h : laidMetH Tryz.prog l W) : TabS W := by
 have h1 := laidMetH.filter (fun x => x.1 == "strings.asciiSpace") h
 rw [hl,tab_data] at h1
 exact Lib.tabIs_of_head (rest:=[]) gTabS gTabTypeS Tryz.underlying216 Tryz.underlying5 cellsU8S cellsTabS h1
noncomputable def laidWorld (os:Os):World:=World.doorLaid Tryz.prog 4000 os
set_option maxRecDepth 100000 in
theorem arg_plan {m:Nat} {x:AV} (h:Arg Tryz.prog (m+9) 35 x):∃ p:Pln,x=plA p∧PlL p:=by
 obtain ⟨xs,h1,h2⟩:=h
 obtain ⟨p,rfl,hp⟩:=shp_plan h1
 simp only [Tryz.underlying35] at h2
 cases h2
 exact ⟨p,rfl,hp⟩
end Go.Proofs.YtcpgmmlaimkojaaGreatDoor
