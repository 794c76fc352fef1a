/-
  DERIVED. GIVEN WITH THE SEED: THE CARDS: each row of YtfdchnepaaampaaDoorRows.lean that lists a variable, with what it lists TIED to the program's text (the seventh form; the later family's looks); each row that meets fmt, with fmt's text TOLD by the authors' own Lean function (tested against real Go, not proved from fmt's source: count such statements apart). THE CARD IS WHAT COUNTS. Prove the row's statement (the work); the ties are given (YtfdchnepaaampaaDoorTie.lean); close each card by the builder's one call (the guide's Derived/Test/ToyasCard.lean, 'card_holds'). Laid BY PROGRAM, IN A SANDBOX (cutbox-door.mjs). By AI agents, Wed Nov 11 2026. No macro, syntax, notation, axiom, sorry.
-/
import Derived.Test.YtfdchnepaaampaaDoorRows
import GoSem.ClaimSeven
namespace Go.Proofs.YtfdchnepaaampaaDoor
namespace Rows

/-- THE TIED CARD OF 'confluentlaw31.ClockBounds'. -/
def clockBoundsCard : Claim7 := { stood := { row := clockBoundsRow, standIns := [], harness := (true, "6475a90f9cb9a5c5169f9b265412d4fbd643ebea0b5617fedbb832402dbcec1d"), looks := true }, kinds := [], alts := [], laidByText := true, laidKinds := [.data, .data, .data], laidTests := true, laidLooks := .later }
def ClockBoundsCardSaid : Prop := Claim7.holds Tryd.pinned (.plain (OpenSpec.ofChange clockBoundsSpec)) clockBoundsCard

/-- THE TIED CARD OF 'confluentlaw31.ClockLattice'. -/
def clockLatticeCard : Claim7 := { stood := { row := clockLatticeRow, standIns := [], harness := (true, "6475a90f9cb9a5c5169f9b265412d4fbd643ebea0b5617fedbb832402dbcec1d"), looks := true }, kinds := [], alts := [], laidByText := true, laidKinds := [.data, .data, .data], laidTests := true, laidLooks := .later }
def ClockLatticeCardSaid : Prop := Claim7.holds Tryd.pinned (.plain (OpenSpec.ofChange clockLatticeSpec)) clockLatticeCard

/-- THE TIED CARD OF 'confluentlaw31.ClockSpans'. -/
def clockSpansCard : Claim7 := { stood := { row := clockSpansRow, standIns := [], harness := (true, "6475a90f9cb9a5c5169f9b265412d4fbd643ebea0b5617fedbb832402dbcec1d"), looks := true }, kinds := [], alts := [], laidByText := true, laidKinds := [.data, .data, .data], laidTests := true, laidLooks := .later }
def ClockSpansCardSaid : Prop := Claim7.holds Tryd.pinned (.plain (OpenSpec.ofChange clockSpansSpec)) clockSpansCard

/-- THE TIED CARD OF 'confluentlaw31.ClockEvents'. -/
def clockEventsCard : Claim7 := { stood := { row := clockEventsRow, standIns := [], harness := (true, "6475a90f9cb9a5c5169f9b265412d4fbd643ebea0b5617fedbb832402dbcec1d"), looks := true }, kinds := [], alts := [], laidByText := true, laidKinds := [.data, .data, .data], laidTests := true, laidLooks := .later }
def ClockEventsCardSaid : Prop := Claim7.holds Tryd.pinned (.plain (OpenSpec.ofChange clockEventsSpec)) clockEventsCard

/-- THE TIED CARD OF 'confluentlaw31.ClockMissing'. -/
def clockMissingCard : Claim7 := { stood := { row := clockMissingRow, standIns := [], harness := (true, "6475a90f9cb9a5c5169f9b265412d4fbd643ebea0b5617fedbb832402dbcec1d"), looks := true }, kinds := [], alts := [], laidByText := true, laidKinds := [.data, .data, .data], laidTests := true, laidLooks := .later }
def ClockMissingCardSaid : Prop := Claim7.holds Tryd.pinned (.plain (OpenSpec.ofChange clockMissingSpec)) clockMissingCard

/-- THE TIED CARD OF 'confluentlaw31.ClockAdvances'. -/
def clockAdvancesCard : Claim7 := { stood := { row := clockAdvancesRow, standIns := [], harness := (true, "6475a90f9cb9a5c5169f9b265412d4fbd643ebea0b5617fedbb832402dbcec1d"), looks := true }, kinds := [], alts := [], laidByText := true, laidKinds := [.data, .data, .data], laidTests := true, laidLooks := .later }
def ClockAdvancesCardSaid : Prop := Claim7.holds Tryd.pinned (.plain (OpenSpec.ofChange clockAdvancesSpec)) clockAdvancesCard

/-- THE TIED CARD OF 'confluentlaw31.ClockTexts'. -/
def clockTextsCard : Claim7 := { stood := { row := clockTextsRow, standIns := [], harness := (true, "6475a90f9cb9a5c5169f9b265412d4fbd643ebea0b5617fedbb832402dbcec1d"), looks := true }, kinds := [], alts := [], laidByText := true, laidKinds := [.data, .data, .data, .data, .sentinel, .sentinel, .pinned], laidTests := true, laidLooks := .later }
def ClockTextsCardSaid : Prop := Claim7.holds Tryd.pinned (.plain (OpenSpec.ofChange clockTextsSpec)) clockTextsCard

/-- THE TIED CARD OF 'confluentlaw31.ClockReturns'. -/
def clockReturnsCard : Claim7 := { stood := { row := clockReturnsRow, standIns := [], harness := (true, "6475a90f9cb9a5c5169f9b265412d4fbd643ebea0b5617fedbb832402dbcec1d"), looks := true }, kinds := [], alts := [], laidByText := true, laidKinds := [.data, .data, .data, .data, .sentinel, .sentinel, .pinned], laidTests := true, laidLooks := .later }
def ClockReturnsCardSaid : Prop := Claim7.holds Tryd.pinned (.plain (OpenSpec.ofChange clockReturnsSpec)) clockReturnsCard

/-- THE SECOND FORM's CARD OF 'confluentlaw31.ClockBounds'. -/
def clockBoundsUptoCard : Claim7 := { stood := { row := clockBoundsUptoRow, standIns := [], harness := (true, "6475a90f9cb9a5c5169f9b265412d4fbd643ebea0b5617fedbb832402dbcec1d"), looks := true }, kinds := [], alts := [], laidByText := true, laidKinds := [.data, .data, .data], laidTests := true, laidLooks := .later }
def ClockBoundsUptoCardSaid : Prop := Claim7.holds Tryd.pinned (.plain (OpenSpec.upto clockBoundsSpec)) clockBoundsUptoCard

/-- THE SECOND FORM's CARD OF 'confluentlaw31.ClockLattice'. -/
def clockLatticeUptoCard : Claim7 := { stood := { row := clockLatticeUptoRow, standIns := [], harness := (true, "6475a90f9cb9a5c5169f9b265412d4fbd643ebea0b5617fedbb832402dbcec1d"), looks := true }, kinds := [], alts := [], laidByText := true, laidKinds := [.data, .data, .data], laidTests := true, laidLooks := .later }
def ClockLatticeUptoCardSaid : Prop := Claim7.holds Tryd.pinned (.plain (OpenSpec.upto clockLatticeSpec)) clockLatticeUptoCard

/-- THE SECOND FORM's CARD OF 'confluentlaw31.ClockSpans'. -/
def clockSpansUptoCard : Claim7 := { stood := { row := clockSpansUptoRow, standIns := [], harness := (true, "6475a90f9cb9a5c5169f9b265412d4fbd643ebea0b5617fedbb832402dbcec1d"), looks := true }, kinds := [], alts := [], laidByText := true, laidKinds := [.data, .data, .data], laidTests := true, laidLooks := .later }
def ClockSpansUptoCardSaid : Prop := Claim7.holds Tryd.pinned (.plain (OpenSpec.upto clockSpansSpec)) clockSpansUptoCard

/-- THE SECOND FORM's CARD OF 'confluentlaw31.ClockEvents'. -/
def clockEventsUptoCard : Claim7 := { stood := { row := clockEventsUptoRow, standIns := [], harness := (true, "6475a90f9cb9a5c5169f9b265412d4fbd643ebea0b5617fedbb832402dbcec1d"), looks := true }, kinds := [], alts := [], laidByText := true, laidKinds := [.data, .data, .data], laidTests := true, laidLooks := .later }
def ClockEventsUptoCardSaid : Prop := Claim7.holds Tryd.pinned (.plain (OpenSpec.upto clockEventsSpec)) clockEventsUptoCard

/-- THE SECOND FORM's CARD OF 'confluentlaw31.ClockMissing'. -/
def clockMissingUptoCard : Claim7 := { stood := { row := clockMissingUptoRow, standIns := [], harness := (true, "6475a90f9cb9a5c5169f9b265412d4fbd643ebea0b5617fedbb832402dbcec1d"), looks := true }, kinds := [], alts := [], laidByText := true, laidKinds := [.data, .data, .data], laidTests := true, laidLooks := .later }
def ClockMissingUptoCardSaid : Prop := Claim7.holds Tryd.pinned (.plain (OpenSpec.upto clockMissingSpec)) clockMissingUptoCard

/-- THE SECOND FORM's CARD OF 'confluentlaw31.ClockAdvances'. -/
def clockAdvancesUptoCard : Claim7 := { stood := { row := clockAdvancesUptoRow, standIns := [], harness := (true, "6475a90f9cb9a5c5169f9b265412d4fbd643ebea0b5617fedbb832402dbcec1d"), looks := true }, kinds := [], alts := [], laidByText := true, laidKinds := [.data, .data, .data], laidTests := true, laidLooks := .later }
def ClockAdvancesUptoCardSaid : Prop := Claim7.holds Tryd.pinned (.plain (OpenSpec.upto clockAdvancesSpec)) clockAdvancesUptoCard

/-- THE SECOND FORM's CARD OF 'confluentlaw31.ClockTexts'. -/
def clockTextsUptoCard : Claim7 := { stood := { row := clockTextsUptoRow, standIns := [], harness := (true, "6475a90f9cb9a5c5169f9b265412d4fbd643ebea0b5617fedbb832402dbcec1d"), looks := true }, kinds := [], alts := [], laidByText := true, laidKinds := [.data, .data, .data, .data, .sentinel, .sentinel, .pinned], laidTests := true, laidLooks := .later }
def ClockTextsUptoCardSaid : Prop := Claim7.holds Tryd.pinned (.plain (OpenSpec.upto clockTextsSpec)) clockTextsUptoCard

/-- THE SECOND FORM's CARD OF 'confluentlaw31.ClockReturns'. -/
def clockReturnsUptoCard : Claim7 := { stood := { row := clockReturnsUptoRow, standIns := [], harness := (true, "6475a90f9cb9a5c5169f9b265412d4fbd643ebea0b5617fedbb832402dbcec1d"), looks := true }, kinds := [], alts := [], laidByText := true, laidKinds := [.data, .data, .data, .data, .sentinel, .sentinel, .pinned], laidTests := true, laidLooks := .later }
def ClockReturnsUptoCardSaid : Prop := Claim7.holds Tryd.pinned (.plain (OpenSpec.upto clockReturnsSpec)) clockReturnsUptoCard
end Rows
end Go.Proofs.YtfdchnepaaampaaDoor
