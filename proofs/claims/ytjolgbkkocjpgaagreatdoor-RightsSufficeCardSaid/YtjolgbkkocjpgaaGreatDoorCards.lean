/-
  DERIVED. GIVEN WITH THE SEED: THE CARDS: each row of YtjolgbkkocjpgaaGreatDoorRows.lean that lists a variable, with what it lists TIED to the program's text (the seventh form; the later family's looks); each row that meets fmt, with fmt's text TOLD by the authors' own Lean function (tested against real Go, not proved from fmt's source: count such statements apart). THE CARD IS WHAT COUNTS. Prove the row's statement (the work); the ties are given (YtjolgbkkocjpgaaGreatDoorTie.lean); close each card by the builder's one call (the guide's Derived/Test/ToyasCard.lean, 'card_holds'). Laid BY PROGRAM, IN A SANDBOX (cutbox-door.mjs). By AI agents, Wed Nov 11 2026. No macro, syntax, notation, axiom, sorry.
-/
import Derived.Test.YtjolgbkkocjpgaaGreatDoorRows
import GoSem.ClaimSeven
namespace Go.Proofs.YtjolgbkkocjpgaaGreatDoor
namespace Rows

/-- THE TIED CARD OF 'confluentlaw39.RightsDivide'. -/
def rightsDivideCard : Claim7 := { stood := { row := rightsDivideRow, standIns := [], harness := (true, "01e818e8f0fbc26aafe7c9a13f27028428803c59c0f1d0418814602ddd77f0fa"), looks := false }, kinds := [], alts := [], laidByText := true, laidKinds := [.listed, .data], laidTests := true, laidLooks := .later }
def RightsDivideCardSaid : Prop := Claim7.holds Tryz.pinned (.plain (OpenSpec.ofChange rightsDivideSpec)) rightsDivideCard

/-- THE TIED CARD OF 'confluentlaw39.RightsSuffice'. -/
def rightsSufficeCard : Claim7 := { stood := { row := rightsSufficeRow, standIns := [], harness := (true, "01e818e8f0fbc26aafe7c9a13f27028428803c59c0f1d0418814602ddd77f0fa"), looks := false }, kinds := [], alts := [], laidByText := true, laidKinds := [.listed, .data], laidTests := true, laidLooks := .later }
def RightsSufficeCardSaid : Prop := Claim7.holds Tryz.pinned (.plain (OpenSpec.ofChange rightsSufficeSpec)) rightsSufficeCard

/-- THE TIED CARD OF 'confluentlaw39.RightsApplies'. -/
def rightsAppliesCard : Claim7 := { stood := { row := rightsAppliesRow, standIns := [], harness := (true, "01e818e8f0fbc26aafe7c9a13f27028428803c59c0f1d0418814602ddd77f0fa"), looks := false }, kinds := [], alts := [], laidByText := true, laidKinds := [.listed, .data], laidTests := true, laidLooks := .later }
def RightsAppliesCardSaid : Prop := Claim7.holds Tryz.pinned (.plain (OpenSpec.ofChange rightsAppliesSpec)) rightsAppliesCard

/-- THE TIED CARD OF 'confluentlaw39.RightsOrders'. -/
def rightsOrdersCard : Claim7 := { stood := { row := rightsOrdersRow, standIns := [], harness := (true, "01e818e8f0fbc26aafe7c9a13f27028428803c59c0f1d0418814602ddd77f0fa"), looks := false }, kinds := [], alts := [], laidByText := true, laidKinds := [.listed, .data], laidTests := true, laidLooks := .later }
def RightsOrdersCardSaid : Prop := Claim7.holds Tryz.pinned (.plain (OpenSpec.ofChange rightsOrdersSpec)) rightsOrdersCard

/-- THE SECOND FORM's CARD OF 'confluentlaw39.RightsDivide'. -/
def rightsDivideUptoCard : Claim7 := { stood := { row := rightsDivideUptoRow, standIns := [], harness := (true, "01e818e8f0fbc26aafe7c9a13f27028428803c59c0f1d0418814602ddd77f0fa"), looks := false }, kinds := [], alts := [], laidByText := true, laidKinds := [.listed, .data], laidTests := true, laidLooks := .later }
def RightsDivideUptoCardSaid : Prop := Claim7.holds Tryz.pinned (.plain (OpenSpec.upto rightsDivideSpec)) rightsDivideUptoCard

/-- THE SECOND FORM's CARD OF 'confluentlaw39.RightsSuffice'. -/
def rightsSufficeUptoCard : Claim7 := { stood := { row := rightsSufficeUptoRow, standIns := [], harness := (true, "01e818e8f0fbc26aafe7c9a13f27028428803c59c0f1d0418814602ddd77f0fa"), looks := false }, kinds := [], alts := [], laidByText := true, laidKinds := [.listed, .data], laidTests := true, laidLooks := .later }
def RightsSufficeUptoCardSaid : Prop := Claim7.holds Tryz.pinned (.plain (OpenSpec.upto rightsSufficeSpec)) rightsSufficeUptoCard

/-- THE SECOND FORM's CARD OF 'confluentlaw39.RightsApplies'. -/
def rightsAppliesUptoCard : Claim7 := { stood := { row := rightsAppliesUptoRow, standIns := [], harness := (true, "01e818e8f0fbc26aafe7c9a13f27028428803c59c0f1d0418814602ddd77f0fa"), looks := false }, kinds := [], alts := [], laidByText := true, laidKinds := [.listed, .data], laidTests := true, laidLooks := .later }
def RightsAppliesUptoCardSaid : Prop := Claim7.holds Tryz.pinned (.plain (OpenSpec.upto rightsAppliesSpec)) rightsAppliesUptoCard

/-- THE SECOND FORM's CARD OF 'confluentlaw39.RightsOrders'. -/
def rightsOrdersUptoCard : Claim7 := { stood := { row := rightsOrdersUptoRow, standIns := [], harness := (true, "01e818e8f0fbc26aafe7c9a13f27028428803c59c0f1d0418814602ddd77f0fa"), looks := false }, kinds := [], alts := [], laidByText := true, laidKinds := [.listed, .data], laidTests := true, laidLooks := .later }
def RightsOrdersUptoCardSaid : Prop := Claim7.holds Tryz.pinned (.plain (OpenSpec.upto rightsOrdersSpec)) rightsOrdersUptoCard
end Rows
end Go.Proofs.YtjolgbkkocjpgaaGreatDoor
