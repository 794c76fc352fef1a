/-
  DERIVED. GIVEN WITH THE SEED: THE CARDS: each row of YtcgdbhlnkificaaGreatDoorRows.lean that lists a variable, with what it lists TIED to the program's text (the seventh form; the later family's looks); each row that meets fmt, with fmt's text TOLD by the authors' own Lean function (tested against real Go, not proved from fmt's source: count such statements apart). THE CARD IS WHAT COUNTS. Prove the row's statement (the work); the ties are given (YtcgdbhlnkificaaGreatDoorTie.lean); close each card by the builder's one call (the guide's Derived/Test/ToyasCard.lean, 'card_holds'). Laid BY PROGRAM, IN A SANDBOX (cutbox-door.mjs). By AI agents, Wed Nov 11 2026. No macro, syntax, notation, axiom, sorry.
-/
import Derived.Test.YtcgdbhlnkificaaGreatDoorRows
import GoSem.ClaimSeven
namespace Go.Proofs.YtcgdbhlnkificaaGreatDoor
namespace Rows

/-- THE TIED CARD OF 'confluentlaw40.SharesStarts'. -/
def sharesStartsCard : Claim7 := { stood := { row := sharesStartsRow, standIns := [], harness := (true, "75068c5f57dde89c28e0c5928d6926f8bbfe4eb157764d5aaa08aa515097eeb1"), looks := false }, kinds := [], alts := [], laidByText := true, laidKinds := [.listed, .data], laidTests := true, laidLooks := .later }
def SharesStartsCardSaid : Prop := Claim7.holds Tryz.pinned (.plain (OpenSpec.ofChange sharesStartsSpec)) sharesStartsCard

/-- THE TIED CARD OF 'confluentlaw40.SharesSuffice'. -/
def sharesSufficeCard : Claim7 := { stood := { row := sharesSufficeRow, standIns := [], harness := (true, "75068c5f57dde89c28e0c5928d6926f8bbfe4eb157764d5aaa08aa515097eeb1"), looks := false }, kinds := [], alts := [], laidByText := true, laidKinds := [.listed, .data], laidTests := true, laidLooks := .later }
def SharesSufficeCardSaid : Prop := Claim7.holds Tryz.pinned (.plain (OpenSpec.ofChange sharesSufficeSpec)) sharesSufficeCard

/-- THE TIED CARD OF 'confluentlaw40.SharesApplies'. -/
def sharesAppliesCard : Claim7 := { stood := { row := sharesAppliesRow, standIns := [], harness := (true, "75068c5f57dde89c28e0c5928d6926f8bbfe4eb157764d5aaa08aa515097eeb1"), looks := false }, kinds := [], alts := [], laidByText := true, laidKinds := [.listed, .data], laidTests := true, laidLooks := .later }
def SharesAppliesCardSaid : Prop := Claim7.holds Tryz.pinned (.plain (OpenSpec.ofChange sharesAppliesSpec)) sharesAppliesCard

/-- THE TIED CARD OF 'confluentlaw40.SharesOrders'. -/
def sharesOrdersCard : Claim7 := { stood := { row := sharesOrdersRow, standIns := [], harness := (true, "75068c5f57dde89c28e0c5928d6926f8bbfe4eb157764d5aaa08aa515097eeb1"), looks := false }, kinds := [], alts := [], laidByText := true, laidKinds := [.listed, .data], laidTests := true, laidLooks := .later }
def SharesOrdersCardSaid : Prop := Claim7.holds Tryz.pinned (.plain (OpenSpec.ofChange sharesOrdersSpec)) sharesOrdersCard

/-- THE TIED CARD OF 'confluentlaw40.SharesExclude'. -/
def sharesExcludeCard : Claim7 := { stood := { row := sharesExcludeRow, standIns := [], harness := (true, "75068c5f57dde89c28e0c5928d6926f8bbfe4eb157764d5aaa08aa515097eeb1"), looks := false }, kinds := [], alts := [], laidByText := true, laidKinds := [.listed, .data], laidTests := true, laidLooks := .later }
def SharesExcludeCardSaid : Prop := Claim7.holds Tryz.pinned (.plain (OpenSpec.ofChange sharesExcludeSpec)) sharesExcludeCard

/-- THE TIED CARD OF 'confluentlaw40.SharesConserved'. -/
def sharesConservedCard : Claim7 := { stood := { row := sharesConservedRow, standIns := [], harness := (true, "75068c5f57dde89c28e0c5928d6926f8bbfe4eb157764d5aaa08aa515097eeb1"), looks := false }, kinds := [], alts := [], laidByText := true, laidKinds := [.listed, .data], laidTests := true, laidLooks := .later }
def SharesConservedCardSaid : Prop := Claim7.holds Tryz.pinned (.plain (OpenSpec.ofChange sharesConservedSpec)) sharesConservedCard

/-- THE SECOND FORM's CARD OF 'confluentlaw40.SharesStarts'. -/
def sharesStartsUptoCard : Claim7 := { stood := { row := sharesStartsUptoRow, standIns := [], harness := (true, "75068c5f57dde89c28e0c5928d6926f8bbfe4eb157764d5aaa08aa515097eeb1"), looks := false }, kinds := [], alts := [], laidByText := true, laidKinds := [.listed, .data], laidTests := true, laidLooks := .later }
def SharesStartsUptoCardSaid : Prop := Claim7.holds Tryz.pinned (.plain (OpenSpec.upto sharesStartsSpec)) sharesStartsUptoCard

/-- THE SECOND FORM's CARD OF 'confluentlaw40.SharesSuffice'. -/
def sharesSufficeUptoCard : Claim7 := { stood := { row := sharesSufficeUptoRow, standIns := [], harness := (true, "75068c5f57dde89c28e0c5928d6926f8bbfe4eb157764d5aaa08aa515097eeb1"), looks := false }, kinds := [], alts := [], laidByText := true, laidKinds := [.listed, .data], laidTests := true, laidLooks := .later }
def SharesSufficeUptoCardSaid : Prop := Claim7.holds Tryz.pinned (.plain (OpenSpec.upto sharesSufficeSpec)) sharesSufficeUptoCard

/-- THE SECOND FORM's CARD OF 'confluentlaw40.SharesApplies'. -/
def sharesAppliesUptoCard : Claim7 := { stood := { row := sharesAppliesUptoRow, standIns := [], harness := (true, "75068c5f57dde89c28e0c5928d6926f8bbfe4eb157764d5aaa08aa515097eeb1"), looks := false }, kinds := [], alts := [], laidByText := true, laidKinds := [.listed, .data], laidTests := true, laidLooks := .later }
def SharesAppliesUptoCardSaid : Prop := Claim7.holds Tryz.pinned (.plain (OpenSpec.upto sharesAppliesSpec)) sharesAppliesUptoCard

/-- THE SECOND FORM's CARD OF 'confluentlaw40.SharesOrders'. -/
def sharesOrdersUptoCard : Claim7 := { stood := { row := sharesOrdersUptoRow, standIns := [], harness := (true, "75068c5f57dde89c28e0c5928d6926f8bbfe4eb157764d5aaa08aa515097eeb1"), looks := false }, kinds := [], alts := [], laidByText := true, laidKinds := [.listed, .data], laidTests := true, laidLooks := .later }
def SharesOrdersUptoCardSaid : Prop := Claim7.holds Tryz.pinned (.plain (OpenSpec.upto sharesOrdersSpec)) sharesOrdersUptoCard

/-- THE SECOND FORM's CARD OF 'confluentlaw40.SharesExclude'. -/
def sharesExcludeUptoCard : Claim7 := { stood := { row := sharesExcludeUptoRow, standIns := [], harness := (true, "75068c5f57dde89c28e0c5928d6926f8bbfe4eb157764d5aaa08aa515097eeb1"), looks := false }, kinds := [], alts := [], laidByText := true, laidKinds := [.listed, .data], laidTests := true, laidLooks := .later }
def SharesExcludeUptoCardSaid : Prop := Claim7.holds Tryz.pinned (.plain (OpenSpec.upto sharesExcludeSpec)) sharesExcludeUptoCard

/-- THE SECOND FORM's CARD OF 'confluentlaw40.SharesConserved'. -/
def sharesConservedUptoCard : Claim7 := { stood := { row := sharesConservedUptoRow, standIns := [], harness := (true, "75068c5f57dde89c28e0c5928d6926f8bbfe4eb157764d5aaa08aa515097eeb1"), looks := false }, kinds := [], alts := [], laidByText := true, laidKinds := [.listed, .data], laidTests := true, laidLooks := .later }
def SharesConservedUptoCardSaid : Prop := Claim7.holds Tryz.pinned (.plain (OpenSpec.upto sharesConservedSpec)) sharesConservedUptoCard
end Rows
end Go.Proofs.YtcgdbhlnkificaaGreatDoor
