/-
  DERIVED. GIVEN WITH THE SEED: THE CARDS: each row of YtjdhnoffoknlnaaDoorRows.lean that lists a variable, with what it lists TIED to the program's text (the seventh form; the later family's looks); each row that meets fmt, with fmt's text TOLD by the authors' own Lean function (tested against real Go, not proved from fmt's source: count such statements apart). THE CARD IS WHAT COUNTS. Prove the row's statement (the work); the ties are given (YtjdhnoffoknlnaaDoorTie.lean); close each card by the builder's one call (the guide's Derived/Test/ToyasCard.lean, 'card_holds'). Laid BY PROGRAM, IN A SANDBOX (cutbox-door.mjs). By AI agents, Wed Nov 11 2026. No macro, syntax, notation, axiom, sorry.
-/
import Derived.Test.YtjdhnoffoknlnaaDoorRows
import GoSem.ClaimSeven
namespace Go.Proofs.YtjdhnoffoknlnaaDoor
namespace Rows

/-- THE TIED CARD OF 'confluentlaw52.SessionChecks'. -/
def sessionChecksCard : Claim7 := { stood := { row := sessionChecksRow, standIns := [], harness := (true, "0470cf84ccc60c2d98f7ce0a1f351f04bbbef4069a592bcdb21e634f576b8d88"), looks := false }, kinds := [], alts := [], laidByText := true, laidKinds := [.data, .data, .data], laidTests := true, laidLooks := .later }
def SessionChecksCardSaid : Prop := Claim7.holds Tryd.pinned (.plain (OpenSpec.ofChange sessionChecksSpec)) sessionChecksCard

/-- THE TIED CARD OF 'confluentlaw52.SessionOperations'. -/
def sessionOperationsCard : Claim7 := { stood := { row := sessionOperationsRow, standIns := [], harness := (true, "0470cf84ccc60c2d98f7ce0a1f351f04bbbef4069a592bcdb21e634f576b8d88"), looks := false }, kinds := [], alts := [], laidByText := true, laidKinds := [.data, .data, .data], laidTests := true, laidLooks := .later }
def SessionOperationsCardSaid : Prop := Claim7.holds Tryd.pinned (.plain (OpenSpec.ofChange sessionOperationsSpec)) sessionOperationsCard

/-- THE TIED CARD OF 'confluentlaw52.SessionGuarantees'. -/
def sessionGuaranteesCard : Claim7 := { stood := { row := sessionGuaranteesRow, standIns := [], harness := (true, "0470cf84ccc60c2d98f7ce0a1f351f04bbbef4069a592bcdb21e634f576b8d88"), looks := false }, kinds := [], alts := [], laidByText := true, laidKinds := [.data, .data, .data], laidTests := true, laidLooks := .later }
def SessionGuaranteesCardSaid : Prop := Claim7.holds Tryd.pinned (.plain (OpenSpec.ofChange sessionGuaranteesSpec)) sessionGuaranteesCard

/-- THE SECOND FORM's CARD OF 'confluentlaw52.SessionChecks'. -/
def sessionChecksUptoCard : Claim7 := { stood := { row := sessionChecksUptoRow, standIns := [], harness := (true, "0470cf84ccc60c2d98f7ce0a1f351f04bbbef4069a592bcdb21e634f576b8d88"), looks := false }, kinds := [], alts := [], laidByText := true, laidKinds := [.data, .data, .data], laidTests := true, laidLooks := .later }
def SessionChecksUptoCardSaid : Prop := Claim7.holds Tryd.pinned (.plain (OpenSpec.upto sessionChecksSpec)) sessionChecksUptoCard

/-- THE SECOND FORM's CARD OF 'confluentlaw52.SessionOperations'. -/
def sessionOperationsUptoCard : Claim7 := { stood := { row := sessionOperationsUptoRow, standIns := [], harness := (true, "0470cf84ccc60c2d98f7ce0a1f351f04bbbef4069a592bcdb21e634f576b8d88"), looks := false }, kinds := [], alts := [], laidByText := true, laidKinds := [.data, .data, .data], laidTests := true, laidLooks := .later }
def SessionOperationsUptoCardSaid : Prop := Claim7.holds Tryd.pinned (.plain (OpenSpec.upto sessionOperationsSpec)) sessionOperationsUptoCard

/-- THE SECOND FORM's CARD OF 'confluentlaw52.SessionGuarantees'. -/
def sessionGuaranteesUptoCard : Claim7 := { stood := { row := sessionGuaranteesUptoRow, standIns := [], harness := (true, "0470cf84ccc60c2d98f7ce0a1f351f04bbbef4069a592bcdb21e634f576b8d88"), looks := false }, kinds := [], alts := [], laidByText := true, laidKinds := [.data, .data, .data], laidTests := true, laidLooks := .later }
def SessionGuaranteesUptoCardSaid : Prop := Claim7.holds Tryd.pinned (.plain (OpenSpec.upto sessionGuaranteesSpec)) sessionGuaranteesUptoCard
end Rows
end Go.Proofs.YtjdhnoffoknlnaaDoor
