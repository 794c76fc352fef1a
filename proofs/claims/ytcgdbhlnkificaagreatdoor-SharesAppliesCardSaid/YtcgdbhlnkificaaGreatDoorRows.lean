/-
  NARROWER THAN 'FOR EVERY INPUT', by the rows' own cells (each row's printed sentence says how): SharesStarts: laid · SharesSuffice: laid · SharesApplies: laid · SharesOrders: laid · SharesExclude: laid · SharesConserved: laid.
  DERIVED. THE GIVEN ROWS OF THIS SEAT. 6 by the template 'for every input the law returns true; each argument reads behind the call as it read before'; 0 by the template 'total and deterministic' (their statements: YtcgdbhlnkificaaGreatDoorTotals.lean).
  GIVEN WITH THE SEED: the statements are not yours to turn. If you find one false, say at which input.
  Laid BY PROGRAM, IN A SANDBOX (cutbox-rows.mjs): the forced cells as the released guide's own fill.sh prints them over the translation f8d5db881a1f1f74… (all of the seat's roots in one cut). By AI agents, Wed Nov 11 2026. No macro, syntax, notation, axiom, sorry.
-/
import Derived.Test.YtcgdbhlnkificaaGreatDoorChecked
import GoSem.Claim
import GoSem.ClaimJoined
import GoSem.ClaimMapViews
import Derived.JoinedTies
import Derived.KernelRfl
namespace Go.Proofs.YtcgdbhlnkificaaGreatDoor
/- THE CELL 'sum', in the pinned program and in every row, IS THE sha256 OF THE DUMP (.gsa) THAT YtcgdbhlnkificaaGreatDoorProg.lean LOADS. Nothing in Lean hashes anything: it is a label: what it is worth is what the hold of that sum in a sandbox is worth. -/
noncomputable def Tryz.pinned : Pinned := { name := "ytcgdbhlnkificaagreatdoor", sum := "f8d5db881a1f1f74e51b255b5316e521ac04dc5564b8ec1c13ca568c6db3aa9a", checked := Tryz.checked }
namespace Rows
def none {H : Type} : Left H := { results := [], args := [] }

/- WHAT THE LISTED PACKAGE-LEVEL VARIABLES READ AS WHEN THE CALL BEGINS. Each datum BY PROGRAM (the guide's laid-datum.mjs) off the statement by which the dump's own 'gosem.cut.vars' lays the variable. In a bare row this is a premise. The card (YtcgdbhlnkificaaGreatDoorCards.lean) ties it to the program's text. -/
def laid_unicode_White_Space {H : Type} : DataW H := .ptr (.agg [.slice [.agg [.lit (.int .u16 9), .lit (.int .u16 13), .lit (.int .u16 1)], .agg [.lit (.int .u16 32), .lit (.int .u16 133), .lit (.int .u16 101)], .agg [.lit (.int .u16 160), .lit (.int .u16 5760), .lit (.int .u16 5600)], .agg [.lit (.int .u16 8192), .lit (.int .u16 8202), .lit (.int .u16 1)], .agg [.lit (.int .u16 8232), .lit (.int .u16 8233), .lit (.int .u16 1)], .agg [.lit (.int .u16 8239), .lit (.int .u16 8287), .lit (.int .u16 48)], .agg [.lit (.int .u16 12288), .lit (.int .u16 12288), .lit (.int .u16 1)]] [], .nil, .lit (.int .i64 2)])
def laid_strings_asciiSpace {H : Type} : DataW H := .agg [.lit (.int .u8 0), .lit (.int .u8 0), .lit (.int .u8 0), .lit (.int .u8 0), .lit (.int .u8 0), .lit (.int .u8 0), .lit (.int .u8 0), .lit (.int .u8 0), .lit (.int .u8 0), .lit (.int .u8 1), .lit (.int .u8 1), .lit (.int .u8 1), .lit (.int .u8 1), .lit (.int .u8 1), .lit (.int .u8 0), .lit (.int .u8 0), .lit (.int .u8 0), .lit (.int .u8 0), .lit (.int .u8 0), .lit (.int .u8 0), .lit (.int .u8 0), .lit (.int .u8 0), .lit (.int .u8 0), .lit (.int .u8 0), .lit (.int .u8 0), .lit (.int .u8 0), .lit (.int .u8 0), .lit (.int .u8 0), .lit (.int .u8 0), .lit (.int .u8 0), .lit (.int .u8 0), .lit (.int .u8 0), .lit (.int .u8 1), .lit (.int .u8 0), .lit (.int .u8 0), .lit (.int .u8 0), .lit (.int .u8 0), .lit (.int .u8 0), .lit (.int .u8 0), .lit (.int .u8 0), .lit (.int .u8 0), .lit (.int .u8 0), .lit (.int .u8 0), .lit (.int .u8 0), .lit (.int .u8 0), .lit (.int .u8 0), .lit (.int .u8 0), .lit (.int .u8 0), .lit (.int .u8 0), .lit (.int .u8 0), .lit (.int .u8 0), .lit (.int .u8 0), .lit (.int .u8 0), .lit (.int .u8 0), .lit (.int .u8 0), .lit (.int .u8 0), .lit (.int .u8 0), .lit (.int .u8 0), .lit (.int .u8 0), .lit (.int .u8 0), .lit (.int .u8 0), .lit (.int .u8 0), .lit (.int .u8 0), .lit (.int .u8 0), .lit (.int .u8 0), .lit (.int .u8 0), .lit (.int .u8 0), .lit (.int .u8 0), .lit (.int .u8 0), .lit (.int .u8 0), .lit (.int .u8 0), .lit (.int .u8 0), .lit (.int .u8 0), .lit (.int .u8 0), .lit (.int .u8 0), .lit (.int .u8 0), .lit (.int .u8 0), .lit (.int .u8 0), .lit (.int .u8 0), .lit (.int .u8 0), .lit (.int .u8 0), .lit (.int .u8 0), .lit (.int .u8 0), .lit (.int .u8 0), .lit (.int .u8 0), .lit (.int .u8 0), .lit (.int .u8 0), .lit (.int .u8 0), .lit (.int .u8 0), .lit (.int .u8 0), .lit (.int .u8 0), .lit (.int .u8 0), .lit (.int .u8 0), .lit (.int .u8 0), .lit (.int .u8 0), .lit (.int .u8 0), .lit (.int .u8 0), .lit (.int .u8 0), .lit (.int .u8 0), .lit (.int .u8 0), .lit (.int .u8 0), .lit (.int .u8 0), .lit (.int .u8 0), .lit (.int .u8 0), .lit (.int .u8 0), .lit (.int .u8 0), .lit (.int .u8 0), .lit (.int .u8 0), .lit (.int .u8 0), .lit (.int .u8 0), .lit (.int .u8 0), .lit (.int .u8 0), .lit (.int .u8 0), .lit (.int .u8 0), .lit (.int .u8 0), .lit (.int .u8 0), .lit (.int .u8 0), .lit (.int .u8 0), .lit (.int .u8 0), .lit (.int .u8 0), .lit (.int .u8 0), .lit (.int .u8 0), .lit (.int .u8 0), .lit (.int .u8 0), .lit (.int .u8 0), .lit (.int .u8 0), .lit (.int .u8 0), .lit (.int .u8 0), .lit (.int .u8 0), .lit (.int .u8 0), .lit (.int .u8 0), .lit (.int .u8 0), .lit (.int .u8 0), .lit (.int .u8 0), .lit (.int .u8 0), .lit (.int .u8 0), .lit (.int .u8 0), .lit (.int .u8 0), .lit (.int .u8 0), .lit (.int .u8 0), .lit (.int .u8 0), .lit (.int .u8 0), .lit (.int .u8 0), .lit (.int .u8 0), .lit (.int .u8 0), .lit (.int .u8 0), .lit (.int .u8 0), .lit (.int .u8 0), .lit (.int .u8 0), .lit (.int .u8 0), .lit (.int .u8 0), .lit (.int .u8 0), .lit (.int .u8 0), .lit (.int .u8 0), .lit (.int .u8 0), .lit (.int .u8 0), .lit (.int .u8 0), .lit (.int .u8 0), .lit (.int .u8 0), .lit (.int .u8 0), .lit (.int .u8 0), .lit (.int .u8 0), .lit (.int .u8 0), .lit (.int .u8 0), .lit (.int .u8 0), .lit (.int .u8 0), .lit (.int .u8 0), .lit (.int .u8 0), .lit (.int .u8 0), .lit (.int .u8 0), .lit (.int .u8 0), .lit (.int .u8 0), .lit (.int .u8 0), .lit (.int .u8 0), .lit (.int .u8 0), .lit (.int .u8 0), .lit (.int .u8 0), .lit (.int .u8 0), .lit (.int .u8 0), .lit (.int .u8 0), .lit (.int .u8 0), .lit (.int .u8 0), .lit (.int .u8 0), .lit (.int .u8 0), .lit (.int .u8 0), .lit (.int .u8 0), .lit (.int .u8 0), .lit (.int .u8 0), .lit (.int .u8 0), .lit (.int .u8 0), .lit (.int .u8 0), .lit (.int .u8 0), .lit (.int .u8 0), .lit (.int .u8 0), .lit (.int .u8 0), .lit (.int .u8 0), .lit (.int .u8 0), .lit (.int .u8 0), .lit (.int .u8 0), .lit (.int .u8 0), .lit (.int .u8 0), .lit (.int .u8 0), .lit (.int .u8 0), .lit (.int .u8 0), .lit (.int .u8 0), .lit (.int .u8 0), .lit (.int .u8 0), .lit (.int .u8 0), .lit (.int .u8 0), .lit (.int .u8 0), .lit (.int .u8 0), .lit (.int .u8 0), .lit (.int .u8 0), .lit (.int .u8 0), .lit (.int .u8 0), .lit (.int .u8 0), .lit (.int .u8 0), .lit (.int .u8 0), .lit (.int .u8 0), .lit (.int .u8 0), .lit (.int .u8 0), .lit (.int .u8 0), .lit (.int .u8 0), .lit (.int .u8 0), .lit (.int .u8 0), .lit (.int .u8 0), .lit (.int .u8 0), .lit (.int .u8 0), .lit (.int .u8 0), .lit (.int .u8 0), .lit (.int .u8 0), .lit (.int .u8 0), .lit (.int .u8 0), .lit (.int .u8 0), .lit (.int .u8 0), .lit (.int .u8 0), .lit (.int .u8 0), .lit (.int .u8 0), .lit (.int .u8 0), .lit (.int .u8 0), .lit (.int .u8 0), .lit (.int .u8 0), .lit (.int .u8 0), .lit (.int .u8 0), .lit (.int .u8 0), .lit (.int .u8 0), .lit (.int .u8 0), .lit (.int .u8 0), .lit (.int .u8 0), .lit (.int .u8 0), .lit (.int .u8 0), .lit (.int .u8 0), .lit (.int .u8 0), .lit (.int .u8 0), .lit (.int .u8 0), .lit (.int .u8 0)]

/-- 'confluentlaw40.SharesStarts': WHATEVER THE INPUT: true; the input reads as it did. -/
def sharesStartsSpec : ChangeSpec := { name := "sharesStarts", fn := fun _ => fun
  | [d1, d2, d3, d4] => { results := [.lit (.bool true)], args := [d1, d2, d3, d4] }
  | _ => none }
def sharesStartsRow : OpenClaim := { program := "ytcgdbhlnkificaagreatdoor", sum := "f8d5db881a1f1f74e51b255b5316e521ac04dc5564b8ec1c13ca568c6db3aa9a", func := "confluent/confluentlaw40.SharesStarts", spec := "sharesStarts", inPlace := ["internal/bytealg.IndexByteString"], unfollowed := true, recurses := true, named := ["strings.asciiSpace", "unicode.White_Space"], plainKeys := false, apart := false, laid := [("unicode.White_Space", laid_unicode_White_Space), ("strings.asciiSpace", laid_strings_asciiSpace)] }
def SharesStartsSaid : Prop := sharesStartsRow.holds Tryz.pinned (OpenSpec.ofChange sharesStartsSpec)

/-- ITS FALSE NEIGHBOUR: 'it returns false'. Refute it at one input. -/
def sharesStartsWrong : ChangeSpec := { name := "sharesStarts", fn := fun _ => fun
  | [d1, d2, d3, d4] => { results := [.lit (.bool false)], args := [d1, d2, d3, d4] }
  | _ => none }
def SharesStartsWrongFalsely : Prop := sharesStartsRow.holds Tryz.pinned (OpenSpec.ofChange sharesStartsWrong)

/-- 'confluentlaw40.SharesSuffice': WHATEVER THE INPUT: true; the input reads as it did. -/
def sharesSufficeSpec : ChangeSpec := { name := "sharesSuffice", fn := fun _ => fun
  | [d1, d2, d3, d4, d5, d6] => { results := [.lit (.bool true)], args := [d1, d2, d3, d4, d5, d6] }
  | _ => none }
def sharesSufficeRow : OpenClaim := { program := "ytcgdbhlnkificaagreatdoor", sum := "f8d5db881a1f1f74e51b255b5316e521ac04dc5564b8ec1c13ca568c6db3aa9a", func := "confluent/confluentlaw40.SharesSuffice", spec := "sharesSuffice", inPlace := ["internal/bytealg.IndexByteString"], unfollowed := true, recurses := true, named := ["strings.asciiSpace", "unicode.White_Space"], plainKeys := false, apart := false, laid := [("unicode.White_Space", laid_unicode_White_Space), ("strings.asciiSpace", laid_strings_asciiSpace)] }
def SharesSufficeSaid : Prop := sharesSufficeRow.holds Tryz.pinned (OpenSpec.ofChange sharesSufficeSpec)

/-- ITS FALSE NEIGHBOUR: 'it returns false'. Refute it at one input. -/
def sharesSufficeWrong : ChangeSpec := { name := "sharesSuffice", fn := fun _ => fun
  | [d1, d2, d3, d4, d5, d6] => { results := [.lit (.bool false)], args := [d1, d2, d3, d4, d5, d6] }
  | _ => none }
def SharesSufficeWrongFalsely : Prop := sharesSufficeRow.holds Tryz.pinned (OpenSpec.ofChange sharesSufficeWrong)

/-- 'confluentlaw40.SharesApplies': WHATEVER THE INPUT: true; the input reads as it did. -/
def sharesAppliesSpec : ChangeSpec := { name := "sharesApplies", fn := fun _ => fun
  | [d1, d2, d3, d4, d5, d6, d7, d8] => { results := [.lit (.bool true)], args := [d1, d2, d3, d4, d5, d6, d7, d8] }
  | _ => none }
def sharesAppliesRow : OpenClaim := { program := "ytcgdbhlnkificaagreatdoor", sum := "f8d5db881a1f1f74e51b255b5316e521ac04dc5564b8ec1c13ca568c6db3aa9a", func := "confluent/confluentlaw40.SharesApplies", spec := "sharesApplies", inPlace := ["internal/bytealg.IndexByteString"], unfollowed := true, recurses := true, named := ["strings.asciiSpace", "unicode.White_Space"], plainKeys := false, apart := false, laid := [("unicode.White_Space", laid_unicode_White_Space), ("strings.asciiSpace", laid_strings_asciiSpace)] }
def SharesAppliesSaid : Prop := sharesAppliesRow.holds Tryz.pinned (OpenSpec.ofChange sharesAppliesSpec)

/-- ITS FALSE NEIGHBOUR: 'it returns false'. Refute it at one input. -/
def sharesAppliesWrong : ChangeSpec := { name := "sharesApplies", fn := fun _ => fun
  | [d1, d2, d3, d4, d5, d6, d7, d8] => { results := [.lit (.bool false)], args := [d1, d2, d3, d4, d5, d6, d7, d8] }
  | _ => none }
def SharesAppliesWrongFalsely : Prop := sharesAppliesRow.holds Tryz.pinned (OpenSpec.ofChange sharesAppliesWrong)

/-- 'confluentlaw40.SharesOrders': WHATEVER THE INPUT: true; the input reads as it did. -/
def sharesOrdersSpec : ChangeSpec := { name := "sharesOrders", fn := fun _ => fun
  | [d1, d2, d3, d4, d5] => { results := [.lit (.bool true)], args := [d1, d2, d3, d4, d5] }
  | _ => none }
def sharesOrdersRow : OpenClaim := { program := "ytcgdbhlnkificaagreatdoor", sum := "f8d5db881a1f1f74e51b255b5316e521ac04dc5564b8ec1c13ca568c6db3aa9a", func := "confluent/confluentlaw40.SharesOrders", spec := "sharesOrders", inPlace := ["internal/bytealg.IndexByteString"], unfollowed := true, recurses := true, named := ["strings.asciiSpace", "unicode.White_Space"], plainKeys := false, apart := false, laid := [("unicode.White_Space", laid_unicode_White_Space), ("strings.asciiSpace", laid_strings_asciiSpace)] }
def SharesOrdersSaid : Prop := sharesOrdersRow.holds Tryz.pinned (OpenSpec.ofChange sharesOrdersSpec)

/-- ITS FALSE NEIGHBOUR: 'it returns false'. Refute it at one input. -/
def sharesOrdersWrong : ChangeSpec := { name := "sharesOrders", fn := fun _ => fun
  | [d1, d2, d3, d4, d5] => { results := [.lit (.bool false)], args := [d1, d2, d3, d4, d5] }
  | _ => none }
def SharesOrdersWrongFalsely : Prop := sharesOrdersRow.holds Tryz.pinned (OpenSpec.ofChange sharesOrdersWrong)

/-- 'confluentlaw40.SharesExclude': WHATEVER THE INPUT: true; the input reads as it did. -/
def sharesExcludeSpec : ChangeSpec := { name := "sharesExclude", fn := fun _ => fun
  | [d1, d2, d3] => { results := [.lit (.bool true)], args := [d1, d2, d3] }
  | _ => none }
def sharesExcludeRow : OpenClaim := { program := "ytcgdbhlnkificaagreatdoor", sum := "f8d5db881a1f1f74e51b255b5316e521ac04dc5564b8ec1c13ca568c6db3aa9a", func := "confluent/confluentlaw40.SharesExclude", spec := "sharesExclude", inPlace := ["internal/bytealg.IndexByteString"], unfollowed := true, recurses := true, named := ["strings.asciiSpace", "unicode.White_Space"], plainKeys := false, apart := false, laid := [("unicode.White_Space", laid_unicode_White_Space), ("strings.asciiSpace", laid_strings_asciiSpace)] }
def SharesExcludeSaid : Prop := sharesExcludeRow.holds Tryz.pinned (OpenSpec.ofChange sharesExcludeSpec)

/-- ITS FALSE NEIGHBOUR: 'it returns false'. Refute it at one input. -/
def sharesExcludeWrong : ChangeSpec := { name := "sharesExclude", fn := fun _ => fun
  | [d1, d2, d3] => { results := [.lit (.bool false)], args := [d1, d2, d3] }
  | _ => none }
def SharesExcludeWrongFalsely : Prop := sharesExcludeRow.holds Tryz.pinned (OpenSpec.ofChange sharesExcludeWrong)

/-- 'confluentlaw40.SharesConserved': WHATEVER THE INPUT: true; the input reads as it did. -/
def sharesConservedSpec : ChangeSpec := { name := "sharesConserved", fn := fun _ => fun
  | [d1, d2, d3, d4] => { results := [.lit (.bool true)], args := [d1, d2, d3, d4] }
  | _ => none }
def sharesConservedRow : OpenClaim := { program := "ytcgdbhlnkificaagreatdoor", sum := "f8d5db881a1f1f74e51b255b5316e521ac04dc5564b8ec1c13ca568c6db3aa9a", func := "confluent/confluentlaw40.SharesConserved", spec := "sharesConserved", inPlace := ["internal/bytealg.IndexByteString"], unfollowed := true, recurses := true, named := ["strings.asciiSpace", "unicode.White_Space"], plainKeys := false, apart := false, laid := [("unicode.White_Space", laid_unicode_White_Space), ("strings.asciiSpace", laid_strings_asciiSpace)] }
def SharesConservedSaid : Prop := sharesConservedRow.holds Tryz.pinned (OpenSpec.ofChange sharesConservedSpec)

/-- ITS FALSE NEIGHBOUR: 'it returns false'. Refute it at one input. -/
def sharesConservedWrong : ChangeSpec := { name := "sharesConserved", fn := fun _ => fun
  | [d1, d2, d3, d4] => { results := [.lit (.bool false)], args := [d1, d2, d3, d4] }
  | _ => none }
def SharesConservedWrongFalsely : Prop := sharesConservedRow.holds Tryz.pinned (OpenSpec.ofChange sharesConservedWrong)

/- THE SECOND FORM. 'bulk': how many values and letters a reading holds, each counted each time it is reached (what is shared counts as often as it is met; a slice's spare places count too). A statement '..UptoSaid' is the law's where the arguments, and the package variables that the reading takes, are together of bulk at most 1048576: NARROWER than '..Said'. Prove '..Said' where nothing that the law and all that it calls make is longer than what came in: it says more and counts as full. Else prove '..UptoSaid'. A law counts once. -/
mutual
def uptoBulk {H : Type} : DataW H → Nat
  | .lit (.string bytes) => bytes.length + 1
  | .lit _ => 1
  | .nil => 1
  | .ptr d => uptoBulk d + 1
  | .slice elems spare => uptoBulkAll elems + uptoBulkAll spare + 1
  | .agg parts => uptoBulkAll parts + 1
  | .iface _ d => uptoBulk d + 1
  | .map entries => uptoBulkEntries entries + 1
  | .held _ => 1
def uptoBulkAll {H : Type} : List (DataW H) → Nat
  | [] => 0
  | d :: r => uptoBulk d + uptoBulkAll r
def uptoBulkEntries {H : Type} : List (Lit × DataW H) → Nat
  | [] => 0
  | x :: r => uptoBulkEntry x + uptoBulkEntries r
def uptoBulkEntry {H : Type} : Lit × DataW H → Nat
  | (.string bytes, d) => bytes.length + uptoBulk d + 1
  | (_, d) => uptoBulk d + 1
 end
def uptoSmall : (H : Type) → List (DataW H) → Bool := fun _ ds => decide (uptoBulkAll ds ≤ 1048576)
def OpenSpec.upto (s : _root_.Go.ChangeSpec) : _root_.Go.OpenSpec := { _root_.Go.OpenSpec.ofChange s with cond := some uptoSmall }

/-- 'confluentlaw40.SharesStarts', WHERE WHAT IT READS IS OF BULK AT MOST 1048576: true; the input reads as it did. -/
def sharesStartsUptoRow : OpenClaim := { program := "ytcgdbhlnkificaagreatdoor", sum := "f8d5db881a1f1f74e51b255b5316e521ac04dc5564b8ec1c13ca568c6db3aa9a", func := "confluent/confluentlaw40.SharesStarts", spec := "sharesStarts", inPlace := ["internal/bytealg.IndexByteString"], unfollowed := true, recurses := true, named := ["strings.asciiSpace", "unicode.White_Space"], plainKeys := false, apart := false, laid := [("unicode.White_Space", laid_unicode_White_Space), ("strings.asciiSpace", laid_strings_asciiSpace)], narrowed := true }
def SharesStartsUptoSaid : Prop := sharesStartsUptoRow.holds Tryz.pinned (OpenSpec.upto sharesStartsSpec)

/-- 'confluentlaw40.SharesSuffice', WHERE WHAT IT READS IS OF BULK AT MOST 1048576: true; the input reads as it did. -/
def sharesSufficeUptoRow : OpenClaim := { program := "ytcgdbhlnkificaagreatdoor", sum := "f8d5db881a1f1f74e51b255b5316e521ac04dc5564b8ec1c13ca568c6db3aa9a", func := "confluent/confluentlaw40.SharesSuffice", spec := "sharesSuffice", inPlace := ["internal/bytealg.IndexByteString"], unfollowed := true, recurses := true, named := ["strings.asciiSpace", "unicode.White_Space"], plainKeys := false, apart := false, laid := [("unicode.White_Space", laid_unicode_White_Space), ("strings.asciiSpace", laid_strings_asciiSpace)], narrowed := true }
def SharesSufficeUptoSaid : Prop := sharesSufficeUptoRow.holds Tryz.pinned (OpenSpec.upto sharesSufficeSpec)

/-- 'confluentlaw40.SharesApplies', WHERE WHAT IT READS IS OF BULK AT MOST 1048576: true; the input reads as it did. -/
def sharesAppliesUptoRow : OpenClaim := { program := "ytcgdbhlnkificaagreatdoor", sum := "f8d5db881a1f1f74e51b255b5316e521ac04dc5564b8ec1c13ca568c6db3aa9a", func := "confluent/confluentlaw40.SharesApplies", spec := "sharesApplies", inPlace := ["internal/bytealg.IndexByteString"], unfollowed := true, recurses := true, named := ["strings.asciiSpace", "unicode.White_Space"], plainKeys := false, apart := false, laid := [("unicode.White_Space", laid_unicode_White_Space), ("strings.asciiSpace", laid_strings_asciiSpace)], narrowed := true }
def SharesAppliesUptoSaid : Prop := sharesAppliesUptoRow.holds Tryz.pinned (OpenSpec.upto sharesAppliesSpec)

/-- 'confluentlaw40.SharesOrders', WHERE WHAT IT READS IS OF BULK AT MOST 1048576: true; the input reads as it did. -/
def sharesOrdersUptoRow : OpenClaim := { program := "ytcgdbhlnkificaagreatdoor", sum := "f8d5db881a1f1f74e51b255b5316e521ac04dc5564b8ec1c13ca568c6db3aa9a", func := "confluent/confluentlaw40.SharesOrders", spec := "sharesOrders", inPlace := ["internal/bytealg.IndexByteString"], unfollowed := true, recurses := true, named := ["strings.asciiSpace", "unicode.White_Space"], plainKeys := false, apart := false, laid := [("unicode.White_Space", laid_unicode_White_Space), ("strings.asciiSpace", laid_strings_asciiSpace)], narrowed := true }
def SharesOrdersUptoSaid : Prop := sharesOrdersUptoRow.holds Tryz.pinned (OpenSpec.upto sharesOrdersSpec)

/-- 'confluentlaw40.SharesExclude', WHERE WHAT IT READS IS OF BULK AT MOST 1048576: true; the input reads as it did. -/
def sharesExcludeUptoRow : OpenClaim := { program := "ytcgdbhlnkificaagreatdoor", sum := "f8d5db881a1f1f74e51b255b5316e521ac04dc5564b8ec1c13ca568c6db3aa9a", func := "confluent/confluentlaw40.SharesExclude", spec := "sharesExclude", inPlace := ["internal/bytealg.IndexByteString"], unfollowed := true, recurses := true, named := ["strings.asciiSpace", "unicode.White_Space"], plainKeys := false, apart := false, laid := [("unicode.White_Space", laid_unicode_White_Space), ("strings.asciiSpace", laid_strings_asciiSpace)], narrowed := true }
def SharesExcludeUptoSaid : Prop := sharesExcludeUptoRow.holds Tryz.pinned (OpenSpec.upto sharesExcludeSpec)

/-- 'confluentlaw40.SharesConserved', WHERE WHAT IT READS IS OF BULK AT MOST 1048576: true; the input reads as it did. -/
def sharesConservedUptoRow : OpenClaim := { program := "ytcgdbhlnkificaagreatdoor", sum := "f8d5db881a1f1f74e51b255b5316e521ac04dc5564b8ec1c13ca568c6db3aa9a", func := "confluent/confluentlaw40.SharesConserved", spec := "sharesConserved", inPlace := ["internal/bytealg.IndexByteString"], unfollowed := true, recurses := true, named := ["strings.asciiSpace", "unicode.White_Space"], plainKeys := false, apart := false, laid := [("unicode.White_Space", laid_unicode_White_Space), ("strings.asciiSpace", laid_strings_asciiSpace)], narrowed := true }
def SharesConservedUptoSaid : Prop := sharesConservedUptoRow.holds Tryz.pinned (OpenSpec.upto sharesConservedSpec)

end Rows
end Go.Proofs.YtcgdbhlnkificaaGreatDoor
