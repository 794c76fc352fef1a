/-
  DERIVED. GIVEN WITH THE SEED: THE CARDS: each row of YtjdhnoffoknlnaaGreatDoorRows.lean that lists a variable, with what it lists TIED to the program's text (the seventh form; the later family's looks); each row that meets fmt, with fmt's text TOLD by the authors' own Lean function (tested against real Go, not proved from fmt's source: count such statements apart). THE CARD IS WHAT COUNTS. Prove the row's statement (the work); the ties are given (YtjdhnoffoknlnaaGreatDoorTie.lean); close each card by the builder's one call (the guide's Derived/Test/ToyasCard.lean, 'card_holds'). Laid BY PROGRAM, IN A SANDBOX (cutbox-door.mjs). By AI agents, Wed Nov 11 2026. No macro, syntax, notation, axiom, sorry.
-/
import Derived.Test.YtjdhnoffoknlnaaGreatDoorRows
import GoSem.ClaimSeven
namespace Go.Proofs.YtjdhnoffoknlnaaGreatDoor
namespace Rows

/-- THE TIED CARD OF 'confluentlaw52.SessionContinues'. -/
def sessionContinuesCard : Claim7 := { stood := { row := sessionContinuesRow, standIns := [], harness := (true, "8d07527bae584d7f2d9ee1d167e99e561314732814107f70fb0ba2729a22faaa"), looks := true }, kinds := [], alts := [], laidByText := true, laidKinds := [.data, .data, .data, .data, .sentinel, .sentinel, .pinned], laidTests := true, laidLooks := .later }
def SessionContinuesCardSaid : Prop := Claim7.holds Tryz.pinned (.plain (OpenSpec.ofChange sessionContinuesSpec)) sessionContinuesCard

/-- THE TIED CARD OF 'confluentlaw52.SessionServes'. -/
def sessionServesCard : Claim7 := { stood := { row := sessionServesRow, standIns := [], harness := (true, "8d07527bae584d7f2d9ee1d167e99e561314732814107f70fb0ba2729a22faaa"), looks := true }, kinds := [], alts := [], laidByText := true, laidKinds := [.data, .data, .data, .data, .sentinel, .sentinel, .pinned], laidTests := true, laidLooks := .later }
def SessionServesCardSaid : Prop := Claim7.holds Tryz.pinned (.plain (OpenSpec.ofChange sessionServesSpec)) sessionServesCard

/-- THE TIED CARD OF 'confluentlaw52.SessionTokens'. -/
def sessionTokensCard : Claim7 := { stood := { row := sessionTokensRow, standIns := [], harness := (true, "8d07527bae584d7f2d9ee1d167e99e561314732814107f70fb0ba2729a22faaa"), looks := true }, kinds := [], alts := [], laidByText := true, laidKinds := [.data, .data, .data, .data, .sentinel, .sentinel, .pinned], laidTests := true, laidLooks := .later }
def SessionTokensCardSaid : Prop := Claim7.holds Tryz.pinned (.plain (OpenSpec.ofChange sessionTokensSpec)) sessionTokensCard

/-- THE TIED CARD OF 'confluentlaw52.SessionAcknowledges'. -/
def sessionAcknowledgesCard : Claim7 := { stood := { row := sessionAcknowledgesRow, standIns := [], harness := (true, "8d07527bae584d7f2d9ee1d167e99e561314732814107f70fb0ba2729a22faaa"), looks := true }, kinds := [], alts := [], laidByText := true, laidKinds := [.data, .data, .data, .data, .sentinel, .sentinel, .pinned], laidTests := true, laidLooks := .later }
def SessionAcknowledgesCardSaid : Prop := Claim7.holds Tryz.pinned (.plain (OpenSpec.ofChange sessionAcknowledgesSpec)) sessionAcknowledgesCard

/-- THE SECOND FORM's CARD OF 'confluentlaw52.SessionContinues'. -/
def sessionContinuesUptoCard : Claim7 := { stood := { row := sessionContinuesUptoRow, standIns := [], harness := (true, "8d07527bae584d7f2d9ee1d167e99e561314732814107f70fb0ba2729a22faaa"), looks := true }, kinds := [], alts := [], laidByText := true, laidKinds := [.data, .data, .data, .data, .sentinel, .sentinel, .pinned], laidTests := true, laidLooks := .later }
def SessionContinuesUptoCardSaid : Prop := Claim7.holds Tryz.pinned (.plain (OpenSpec.upto sessionContinuesSpec)) sessionContinuesUptoCard

/-- THE SECOND FORM's CARD OF 'confluentlaw52.SessionServes'. -/
def sessionServesUptoCard : Claim7 := { stood := { row := sessionServesUptoRow, standIns := [], harness := (true, "8d07527bae584d7f2d9ee1d167e99e561314732814107f70fb0ba2729a22faaa"), looks := true }, kinds := [], alts := [], laidByText := true, laidKinds := [.data, .data, .data, .data, .sentinel, .sentinel, .pinned], laidTests := true, laidLooks := .later }
def SessionServesUptoCardSaid : Prop := Claim7.holds Tryz.pinned (.plain (OpenSpec.upto sessionServesSpec)) sessionServesUptoCard

/-- THE SECOND FORM's CARD OF 'confluentlaw52.SessionTokens'. -/
def sessionTokensUptoCard : Claim7 := { stood := { row := sessionTokensUptoRow, standIns := [], harness := (true, "8d07527bae584d7f2d9ee1d167e99e561314732814107f70fb0ba2729a22faaa"), looks := true }, kinds := [], alts := [], laidByText := true, laidKinds := [.data, .data, .data, .data, .sentinel, .sentinel, .pinned], laidTests := true, laidLooks := .later }
def SessionTokensUptoCardSaid : Prop := Claim7.holds Tryz.pinned (.plain (OpenSpec.upto sessionTokensSpec)) sessionTokensUptoCard

/-- THE SECOND FORM's CARD OF 'confluentlaw52.SessionAcknowledges'. -/
def sessionAcknowledgesUptoCard : Claim7 := { stood := { row := sessionAcknowledgesUptoRow, standIns := [], harness := (true, "8d07527bae584d7f2d9ee1d167e99e561314732814107f70fb0ba2729a22faaa"), looks := true }, kinds := [], alts := [], laidByText := true, laidKinds := [.data, .data, .data, .data, .sentinel, .sentinel, .pinned], laidTests := true, laidLooks := .later }
def SessionAcknowledgesUptoCardSaid : Prop := Claim7.holds Tryz.pinned (.plain (OpenSpec.upto sessionAcknowledgesSpec)) sessionAcknowledgesUptoCard
end Rows
end Go.Proofs.YtjdhnoffoknlnaaGreatDoor
