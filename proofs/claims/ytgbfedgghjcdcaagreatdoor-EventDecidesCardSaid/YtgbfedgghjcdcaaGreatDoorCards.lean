/-
  DERIVED. GIVEN WITH THE SEED: THE CARDS: each row of YtgbfedgghjcdcaaGreatDoorRows.lean that lists a variable, with what it lists TIED to the program's text (the seventh form; the later family's looks); each row that meets fmt, with fmt's text TOLD by the authors' own Lean function (tested against real Go, not proved from fmt's source: count such statements apart). THE CARD IS WHAT COUNTS. Prove the row's statement (the work); the ties are given (YtgbfedgghjcdcaaGreatDoorTie.lean); close each card by the builder's one call (the guide's Derived/Test/ToyasCard.lean, 'card_holds'). Laid BY PROGRAM, IN A SANDBOX (cutbox-door.mjs). By AI agents, Wed Nov 11 2026. No macro, syntax, notation, axiom, sorry.
-/
import Derived.Test.YtgbfedgghjcdcaaGreatDoorRows
import GoSem.ClaimSeven
namespace Go.Proofs.YtgbfedgghjcdcaaGreatDoor
namespace Rows

/-- THE TIED CARD OF 'confluentlaw32.EventForms'. -/
def eventFormsCard : Claim7 := { stood := { row := eventFormsRow, standIns := [], harness := (true, "ff17067e20ebbce3b3af32e1862162729b2bff2b75258393dafc605267d2ac35"), looks := true }, kinds := [], alts := [], laidByText := true, laidKinds := [.data, .data, .data, .data, .sentinel, .sentinel, .pinned], laidTests := true, laidLooks := .later }
def EventFormsCardSaid : Prop := Claim7.holds Tryz.pinned (.plain (OpenSpec.ofChange eventFormsSpec)) eventFormsCard

/-- THE TIED CARD OF 'confluentlaw32.EventTexts'. -/
def eventTextsCard : Claim7 := { stood := { row := eventTextsRow, standIns := [], harness := (true, "ff17067e20ebbce3b3af32e1862162729b2bff2b75258393dafc605267d2ac35"), looks := true }, kinds := [], alts := [], laidByText := true, laidKinds := [.data, .data, .data, .data, .sentinel, .sentinel, .pinned], laidTests := true, laidLooks := .later }
def EventTextsCardSaid : Prop := Claim7.holds Tryz.pinned (.plain (OpenSpec.ofChange eventTextsSpec)) eventTextsCard

/-- THE TIED CARD OF 'confluentlaw32.EventReturns'. -/
def eventReturnsCard : Claim7 := { stood := { row := eventReturnsRow, standIns := [], harness := (true, "ff17067e20ebbce3b3af32e1862162729b2bff2b75258393dafc605267d2ac35"), looks := true }, kinds := [], alts := [], laidByText := true, laidKinds := [.data, .data, .data, .data, .sentinel, .sentinel, .pinned], laidTests := true, laidLooks := .later }
def EventReturnsCardSaid : Prop := Claim7.holds Tryz.pinned (.plain (OpenSpec.ofChange eventReturnsSpec)) eventReturnsCard

/-- THE TIED CARD OF 'confluentlaw32.EventDecides'. -/
def eventDecidesCard : Claim7 := { stood := { row := eventDecidesRow, standIns := [], harness := (true, "ff17067e20ebbce3b3af32e1862162729b2bff2b75258393dafc605267d2ac35"), looks := true }, kinds := [], alts := [], laidByText := true, laidKinds := [.data, .data, .data, .data, .sentinel, .sentinel, .pinned], laidTests := true, laidLooks := .later }
def EventDecidesCardSaid : Prop := Claim7.holds Tryz.pinned (.plain (OpenSpec.ofChange eventDecidesSpec)) eventDecidesCard

/-- THE TIED CARD OF 'confluentlaw32.EventSums'. -/
def eventSumsCard : Claim7 := { stood := { row := eventSumsRow, standIns := [], harness := (true, "ff17067e20ebbce3b3af32e1862162729b2bff2b75258393dafc605267d2ac35"), looks := true }, kinds := [], alts := [], laidByText := true, laidKinds := [.data, .data, .data, .data, .sentinel, .sentinel, .pinned], laidTests := true, laidLooks := .later }
def EventSumsCardSaid : Prop := Claim7.holds Tryz.pinned (.plain (OpenSpec.ofChange eventSumsSpec)) eventSumsCard

/-- THE TIED CARD OF 'confluentlaw32.EventSets'. -/
def eventSetsCard : Claim7 := { stood := { row := eventSetsRow, standIns := [], harness := (true, "ff17067e20ebbce3b3af32e1862162729b2bff2b75258393dafc605267d2ac35"), looks := true }, kinds := [], alts := [], laidByText := true, laidKinds := [.data, .data, .data, .data, .sentinel, .sentinel, .pinned], laidTests := true, laidLooks := .later }
def EventSetsCardSaid : Prop := Claim7.holds Tryz.pinned (.plain (OpenSpec.ofChange eventSetsSpec)) eventSetsCard

/-- THE TIED CARD OF 'confluentlaw32.EventPasts'. -/
def eventPastsCard : Claim7 := { stood := { row := eventPastsRow, standIns := [], harness := (true, "ff17067e20ebbce3b3af32e1862162729b2bff2b75258393dafc605267d2ac35"), looks := true }, kinds := [], alts := [], laidByText := true, laidKinds := [.data, .data, .data, .data, .sentinel, .sentinel, .pinned], laidTests := true, laidLooks := .later }
def EventPastsCardSaid : Prop := Claim7.holds Tryz.pinned (.plain (OpenSpec.ofChange eventPastsSpec)) eventPastsCard

/-- THE SECOND FORM's CARD OF 'confluentlaw32.EventForms'. -/
def eventFormsUptoCard : Claim7 := { stood := { row := eventFormsUptoRow, standIns := [], harness := (true, "ff17067e20ebbce3b3af32e1862162729b2bff2b75258393dafc605267d2ac35"), looks := true }, kinds := [], alts := [], laidByText := true, laidKinds := [.data, .data, .data, .data, .sentinel, .sentinel, .pinned], laidTests := true, laidLooks := .later }
def EventFormsUptoCardSaid : Prop := Claim7.holds Tryz.pinned (.plain (OpenSpec.upto eventFormsSpec)) eventFormsUptoCard

/-- THE SECOND FORM's CARD OF 'confluentlaw32.EventTexts'. -/
def eventTextsUptoCard : Claim7 := { stood := { row := eventTextsUptoRow, standIns := [], harness := (true, "ff17067e20ebbce3b3af32e1862162729b2bff2b75258393dafc605267d2ac35"), looks := true }, kinds := [], alts := [], laidByText := true, laidKinds := [.data, .data, .data, .data, .sentinel, .sentinel, .pinned], laidTests := true, laidLooks := .later }
def EventTextsUptoCardSaid : Prop := Claim7.holds Tryz.pinned (.plain (OpenSpec.upto eventTextsSpec)) eventTextsUptoCard

/-- THE SECOND FORM's CARD OF 'confluentlaw32.EventReturns'. -/
def eventReturnsUptoCard : Claim7 := { stood := { row := eventReturnsUptoRow, standIns := [], harness := (true, "ff17067e20ebbce3b3af32e1862162729b2bff2b75258393dafc605267d2ac35"), looks := true }, kinds := [], alts := [], laidByText := true, laidKinds := [.data, .data, .data, .data, .sentinel, .sentinel, .pinned], laidTests := true, laidLooks := .later }
def EventReturnsUptoCardSaid : Prop := Claim7.holds Tryz.pinned (.plain (OpenSpec.upto eventReturnsSpec)) eventReturnsUptoCard

/-- THE SECOND FORM's CARD OF 'confluentlaw32.EventDecides'. -/
def eventDecidesUptoCard : Claim7 := { stood := { row := eventDecidesUptoRow, standIns := [], harness := (true, "ff17067e20ebbce3b3af32e1862162729b2bff2b75258393dafc605267d2ac35"), looks := true }, kinds := [], alts := [], laidByText := true, laidKinds := [.data, .data, .data, .data, .sentinel, .sentinel, .pinned], laidTests := true, laidLooks := .later }
def EventDecidesUptoCardSaid : Prop := Claim7.holds Tryz.pinned (.plain (OpenSpec.upto eventDecidesSpec)) eventDecidesUptoCard

/-- THE SECOND FORM's CARD OF 'confluentlaw32.EventSums'. -/
def eventSumsUptoCard : Claim7 := { stood := { row := eventSumsUptoRow, standIns := [], harness := (true, "ff17067e20ebbce3b3af32e1862162729b2bff2b75258393dafc605267d2ac35"), looks := true }, kinds := [], alts := [], laidByText := true, laidKinds := [.data, .data, .data, .data, .sentinel, .sentinel, .pinned], laidTests := true, laidLooks := .later }
def EventSumsUptoCardSaid : Prop := Claim7.holds Tryz.pinned (.plain (OpenSpec.upto eventSumsSpec)) eventSumsUptoCard

/-- THE SECOND FORM's CARD OF 'confluentlaw32.EventSets'. -/
def eventSetsUptoCard : Claim7 := { stood := { row := eventSetsUptoRow, standIns := [], harness := (true, "ff17067e20ebbce3b3af32e1862162729b2bff2b75258393dafc605267d2ac35"), looks := true }, kinds := [], alts := [], laidByText := true, laidKinds := [.data, .data, .data, .data, .sentinel, .sentinel, .pinned], laidTests := true, laidLooks := .later }
def EventSetsUptoCardSaid : Prop := Claim7.holds Tryz.pinned (.plain (OpenSpec.upto eventSetsSpec)) eventSetsUptoCard

/-- THE SECOND FORM's CARD OF 'confluentlaw32.EventPasts'. -/
def eventPastsUptoCard : Claim7 := { stood := { row := eventPastsUptoRow, standIns := [], harness := (true, "ff17067e20ebbce3b3af32e1862162729b2bff2b75258393dafc605267d2ac35"), looks := true }, kinds := [], alts := [], laidByText := true, laidKinds := [.data, .data, .data, .data, .sentinel, .sentinel, .pinned], laidTests := true, laidLooks := .later }
def EventPastsUptoCardSaid : Prop := Claim7.holds Tryz.pinned (.plain (OpenSpec.upto eventPastsSpec)) eventPastsUptoCard
end Rows
end Go.Proofs.YtgbfedgghjcdcaaGreatDoor
