/-
  DERIVED. GIVEN WITH THE SEED: THE CARDS: each row of YtcpgmmlaimkojaaGreatDoorRows.lean that lists a variable, with what it lists TIED to the program's text (the seventh form; the later family's looks); each row that meets fmt, with fmt's text TOLD by the authors' own Lean function (tested against real Go, not proved from fmt's source: count such statements apart). THE CARD IS WHAT COUNTS. Prove the row's statement (the work); the ties are given (YtcpgmmlaimkojaaGreatDoorTie.lean); close each card by the builder's one call (the guide's Derived/Test/ToyasCard.lean, 'card_holds'). Laid BY PROGRAM, IN A SANDBOX (cutbox-door.mjs). By AI agents, Wed Nov 11 2026. No macro, syntax, notation, axiom, sorry.
-/
import Derived.Test.YtcpgmmlaimkojaaGreatDoorRows
import GoSem.ClaimSeven
namespace Go.Proofs.YtcpgmmlaimkojaaGreatDoor
namespace Rows

/-- THE TIED CARD OF 'confluentlaw27.MechanismValid'. -/
def mechanismValidCard : Claim7 := { stood := { row := mechanismValidRow, standIns := [], harness := (true, "8cc718e20fee007711bd2e637e99a8158ffa7a9e0eb17d5ae31e2d07742e954a"), looks := false }, kinds := [], alts := [], laidByText := true, laidKinds := [.listed, .data], laidTests := true, laidLooks := .later }
def MechanismValidCardSaid : Prop := Claim7.holds Tryz.pinned (.plain (OpenSpec.ofChange mechanismValidSpec)) mechanismValidCard

/-- THE TIED CARD OF 'confluentlaw27.MechanismLocks'. -/
def mechanismLocksCard : Claim7 := { stood := { row := mechanismLocksRow, standIns := [], harness := (true, "8cc718e20fee007711bd2e637e99a8158ffa7a9e0eb17d5ae31e2d07742e954a"), looks := false }, kinds := [], alts := [], laidByText := true, laidKinds := [.listed, .data], laidTests := true, laidLooks := .later }
def MechanismLocksCardSaid : Prop := Claim7.holds Tryz.pinned (.plain (OpenSpec.ofChange mechanismLocksSpec)) mechanismLocksCard

/-- THE TIED CARD OF 'confluentlaw27.MechanismNeeds'. -/
def mechanismNeedsCard : Claim7 := { stood := { row := mechanismNeedsRow, standIns := [], harness := (true, "8cc718e20fee007711bd2e637e99a8158ffa7a9e0eb17d5ae31e2d07742e954a"), looks := false }, kinds := [], alts := [], laidByText := true, laidKinds := [.listed, .data], laidTests := true, laidLooks := .later }
def MechanismNeedsCardSaid : Prop := Claim7.holds Tryz.pinned (.plain (OpenSpec.ofChange mechanismNeedsSpec)) mechanismNeedsCard

/-- THE TIED CARD OF 'confluentlaw27.MechanismExcludes'. -/
def mechanismExcludesCard : Claim7 := { stood := { row := mechanismExcludesRow, standIns := [], harness := (true, "8cc718e20fee007711bd2e637e99a8158ffa7a9e0eb17d5ae31e2d07742e954a"), looks := false }, kinds := [], alts := [], laidByText := true, laidKinds := [.listed, .data], laidTests := true, laidLooks := .later }
def MechanismExcludesCardSaid : Prop := Claim7.holds Tryz.pinned (.plain (OpenSpec.ofChange mechanismExcludesSpec)) mechanismExcludesCard

/-- THE TIED CARD OF 'confluentlaw27.MechanismSlack'. -/
def mechanismSlackCard : Claim7 := { stood := { row := mechanismSlackRow, standIns := [], harness := (true, "8cc718e20fee007711bd2e637e99a8158ffa7a9e0eb17d5ae31e2d07742e954a"), looks := false }, kinds := [], alts := [], laidByText := true, laidKinds := [.listed, .data], laidTests := true, laidLooks := .later }
def MechanismSlackCardSaid : Prop := Claim7.holds Tryz.pinned (.plain (OpenSpec.ofChange mechanismSlackSpec)) mechanismSlackCard

/-- THE TIED CARD OF 'confluentlaw27.MechanismShares'. -/
def mechanismSharesCard : Claim7 := { stood := { row := mechanismSharesRow, standIns := [], harness := (true, "8cc718e20fee007711bd2e637e99a8158ffa7a9e0eb17d5ae31e2d07742e954a"), looks := false }, kinds := [], alts := [], laidByText := true, laidKinds := [.listed, .data], laidTests := true, laidLooks := .later }
def MechanismSharesCardSaid : Prop := Claim7.holds Tryz.pinned (.plain (OpenSpec.ofChange mechanismSharesSpec)) mechanismSharesCard

/-- THE TIED CARD OF 'confluentlaw27.MechanismMore'. -/
def mechanismMoreCard : Claim7 := { stood := { row := mechanismMoreRow, standIns := [], harness := (true, "8cc718e20fee007711bd2e637e99a8158ffa7a9e0eb17d5ae31e2d07742e954a"), looks := false }, kinds := [], alts := [], laidByText := true, laidKinds := [.listed, .data], laidTests := true, laidLooks := .later }
def MechanismMoreCardSaid : Prop := Claim7.holds Tryz.pinned (.plain (OpenSpec.ofChange mechanismMoreSpec)) mechanismMoreCard

/-- THE SECOND FORM's CARD OF 'confluentlaw27.MechanismValid'. -/
def mechanismValidUptoCard : Claim7 := { stood := { row := mechanismValidUptoRow, standIns := [], harness := (true, "8cc718e20fee007711bd2e637e99a8158ffa7a9e0eb17d5ae31e2d07742e954a"), looks := false }, kinds := [], alts := [], laidByText := true, laidKinds := [.listed, .data], laidTests := true, laidLooks := .later }
def MechanismValidUptoCardSaid : Prop := Claim7.holds Tryz.pinned (.plain (OpenSpec.upto mechanismValidSpec)) mechanismValidUptoCard

/-- THE SECOND FORM's CARD OF 'confluentlaw27.MechanismLocks'. -/
def mechanismLocksUptoCard : Claim7 := { stood := { row := mechanismLocksUptoRow, standIns := [], harness := (true, "8cc718e20fee007711bd2e637e99a8158ffa7a9e0eb17d5ae31e2d07742e954a"), looks := false }, kinds := [], alts := [], laidByText := true, laidKinds := [.listed, .data], laidTests := true, laidLooks := .later }
def MechanismLocksUptoCardSaid : Prop := Claim7.holds Tryz.pinned (.plain (OpenSpec.upto mechanismLocksSpec)) mechanismLocksUptoCard

/-- THE SECOND FORM's CARD OF 'confluentlaw27.MechanismNeeds'. -/
def mechanismNeedsUptoCard : Claim7 := { stood := { row := mechanismNeedsUptoRow, standIns := [], harness := (true, "8cc718e20fee007711bd2e637e99a8158ffa7a9e0eb17d5ae31e2d07742e954a"), looks := false }, kinds := [], alts := [], laidByText := true, laidKinds := [.listed, .data], laidTests := true, laidLooks := .later }
def MechanismNeedsUptoCardSaid : Prop := Claim7.holds Tryz.pinned (.plain (OpenSpec.upto mechanismNeedsSpec)) mechanismNeedsUptoCard

/-- THE SECOND FORM's CARD OF 'confluentlaw27.MechanismExcludes'. -/
def mechanismExcludesUptoCard : Claim7 := { stood := { row := mechanismExcludesUptoRow, standIns := [], harness := (true, "8cc718e20fee007711bd2e637e99a8158ffa7a9e0eb17d5ae31e2d07742e954a"), looks := false }, kinds := [], alts := [], laidByText := true, laidKinds := [.listed, .data], laidTests := true, laidLooks := .later }
def MechanismExcludesUptoCardSaid : Prop := Claim7.holds Tryz.pinned (.plain (OpenSpec.upto mechanismExcludesSpec)) mechanismExcludesUptoCard

/-- THE SECOND FORM's CARD OF 'confluentlaw27.MechanismSlack'. -/
def mechanismSlackUptoCard : Claim7 := { stood := { row := mechanismSlackUptoRow, standIns := [], harness := (true, "8cc718e20fee007711bd2e637e99a8158ffa7a9e0eb17d5ae31e2d07742e954a"), looks := false }, kinds := [], alts := [], laidByText := true, laidKinds := [.listed, .data], laidTests := true, laidLooks := .later }
def MechanismSlackUptoCardSaid : Prop := Claim7.holds Tryz.pinned (.plain (OpenSpec.upto mechanismSlackSpec)) mechanismSlackUptoCard

/-- THE SECOND FORM's CARD OF 'confluentlaw27.MechanismShares'. -/
def mechanismSharesUptoCard : Claim7 := { stood := { row := mechanismSharesUptoRow, standIns := [], harness := (true, "8cc718e20fee007711bd2e637e99a8158ffa7a9e0eb17d5ae31e2d07742e954a"), looks := false }, kinds := [], alts := [], laidByText := true, laidKinds := [.listed, .data], laidTests := true, laidLooks := .later }
def MechanismSharesUptoCardSaid : Prop := Claim7.holds Tryz.pinned (.plain (OpenSpec.upto mechanismSharesSpec)) mechanismSharesUptoCard

/-- THE SECOND FORM's CARD OF 'confluentlaw27.MechanismMore'. -/
def mechanismMoreUptoCard : Claim7 := { stood := { row := mechanismMoreUptoRow, standIns := [], harness := (true, "8cc718e20fee007711bd2e637e99a8158ffa7a9e0eb17d5ae31e2d07742e954a"), looks := false }, kinds := [], alts := [], laidByText := true, laidKinds := [.listed, .data], laidTests := true, laidLooks := .later }
def MechanismMoreUptoCardSaid : Prop := Claim7.holds Tryz.pinned (.plain (OpenSpec.upto mechanismMoreSpec)) mechanismMoreUptoCard
end Rows
end Go.Proofs.YtcpgmmlaimkojaaGreatDoor
