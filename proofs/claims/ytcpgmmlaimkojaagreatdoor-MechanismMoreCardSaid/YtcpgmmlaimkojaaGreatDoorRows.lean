/-
  NARROWER THAN 'FOR EVERY INPUT', by the rows' own cells (each row's printed sentence says how): MechanismValid: laid · MechanismLocks: laid · MechanismNeeds: laid · MechanismExcludes: laid · MechanismSlack: laid · MechanismShares: laid · MechanismMore: laid.
  DERIVED. THE GIVEN ROWS OF THIS SEAT. 7 by the template 'for every input the law returns true; each argument reads behind the call as it read before'; 0 by the template 'total and deterministic' (their statements: YtcpgmmlaimkojaaGreatDoorTotals.lean).
  GIVEN WITH THE SEED: the statements are not yours to turn. If you find one false, say at which input.
  Laid BY PROGRAM, IN A SANDBOX (cutbox-rows.mjs): the forced cells as the released guide's own fill.sh prints them over the translation 1945104f4067d953… (all of the seat's roots in one cut). By AI agents, Wed Nov 11 2026. No macro, syntax, notation, axiom, sorry.
-/
import Derived.Test.YtcpgmmlaimkojaaGreatDoorChecked
import GoSem.Claim
import GoSem.ClaimJoined
import GoSem.ClaimMapViews
import Derived.JoinedTies
import Derived.KernelRfl
namespace Go.Proofs.YtcpgmmlaimkojaaGreatDoor
/- THE CELL 'sum', in the pinned program and in every row, IS THE sha256 OF THE DUMP (.gsa) THAT YtcpgmmlaimkojaaGreatDoorProg.lean LOADS. Nothing in Lean hashes anything: it is a label: what it is worth is what the hold of that sum in a sandbox is worth. -/
noncomputable def Tryz.pinned : Pinned := { name := "ytcpgmmlaimkojaagreatdoor", sum := "1945104f4067d95368ffd29542c14dc173beb11ba889b7863f35b1978dadc7ff", checked := Tryz.checked }
namespace Rows
def none {H : Type} : Left H := { results := [], args := [] }

/- WHAT THE LISTED PACKAGE-LEVEL VARIABLES READ AS WHEN THE CALL BEGINS. Each datum BY PROGRAM (the guide's laid-datum.mjs) off the statement by which the dump's own 'gosem.cut.vars' lays the variable. In a bare row this is a premise. The card (YtcpgmmlaimkojaaGreatDoorCards.lean) ties it to the program's text. -/
def laid_unicode_White_Space {H : Type} : DataW H := .ptr (.agg [.slice [.agg [.lit (.int .u16 9), .lit (.int .u16 13), .lit (.int .u16 1)], .agg [.lit (.int .u16 32), .lit (.int .u16 133), .lit (.int .u16 101)], .agg [.lit (.int .u16 160), .lit (.int .u16 5760), .lit (.int .u16 5600)], .agg [.lit (.int .u16 8192), .lit (.int .u16 8202), .lit (.int .u16 1)], .agg [.lit (.int .u16 8232), .lit (.int .u16 8233), .lit (.int .u16 1)], .agg [.lit (.int .u16 8239), .lit (.int .u16 8287), .lit (.int .u16 48)], .agg [.lit (.int .u16 12288), .lit (.int .u16 12288), .lit (.int .u16 1)]] [], .nil, .lit (.int .i64 2)])
def laid_strings_asciiSpace {H : Type} : DataW H := .agg [.lit (.int .u8 0), .lit (.int .u8 0), .lit (.int .u8 0), .lit (.int .u8 0), .lit (.int .u8 0), .lit (.int .u8 0), .lit (.int .u8 0), .lit (.int .u8 0), .lit (.int .u8 0), .lit (.int .u8 1), .lit (.int .u8 1), .lit (.int .u8 1), .lit (.int .u8 1), .lit (.int .u8 1), .lit (.int .u8 0), .lit (.int .u8 0), .lit (.int .u8 0), .lit (.int .u8 0), .lit (.int .u8 0), .lit (.int .u8 0), .lit (.int .u8 0), .lit (.int .u8 0), .lit (.int .u8 0), .lit (.int .u8 0), .lit (.int .u8 0), .lit (.int .u8 0), .lit (.int .u8 0), .lit (.int .u8 0), .lit (.int .u8 0), .lit (.int .u8 0), .lit (.int .u8 0), .lit (.int .u8 0), .lit (.int .u8 1), .lit (.int .u8 0), .lit (.int .u8 0), .lit (.int .u8 0), .lit (.int .u8 0), .lit (.int .u8 0), .lit (.int .u8 0), .lit (.int .u8 0), .lit (.int .u8 0), .lit (.int .u8 0), .lit (.int .u8 0), .lit (.int .u8 0), .lit (.int .u8 0), .lit (.int .u8 0), .lit (.int .u8 0), .lit (.int .u8 0), .lit (.int .u8 0), .lit (.int .u8 0), .lit (.int .u8 0), .lit (.int .u8 0), .lit (.int .u8 0), .lit (.int .u8 0), .lit (.int .u8 0), .lit (.int .u8 0), .lit (.int .u8 0), .lit (.int .u8 0), .lit (.int .u8 0), .lit (.int .u8 0), .lit (.int .u8 0), .lit (.int .u8 0), .lit (.int .u8 0), .lit (.int .u8 0), .lit (.int .u8 0), .lit (.int .u8 0), .lit (.int .u8 0), .lit (.int .u8 0), .lit (.int .u8 0), .lit (.int .u8 0), .lit (.int .u8 0), .lit (.int .u8 0), .lit (.int .u8 0), .lit (.int .u8 0), .lit (.int .u8 0), .lit (.int .u8 0), .lit (.int .u8 0), .lit (.int .u8 0), .lit (.int .u8 0), .lit (.int .u8 0), .lit (.int .u8 0), .lit (.int .u8 0), .lit (.int .u8 0), .lit (.int .u8 0), .lit (.int .u8 0), .lit (.int .u8 0), .lit (.int .u8 0), .lit (.int .u8 0), .lit (.int .u8 0), .lit (.int .u8 0), .lit (.int .u8 0), .lit (.int .u8 0), .lit (.int .u8 0), .lit (.int .u8 0), .lit (.int .u8 0), .lit (.int .u8 0), .lit (.int .u8 0), .lit (.int .u8 0), .lit (.int .u8 0), .lit (.int .u8 0), .lit (.int .u8 0), .lit (.int .u8 0), .lit (.int .u8 0), .lit (.int .u8 0), .lit (.int .u8 0), .lit (.int .u8 0), .lit (.int .u8 0), .lit (.int .u8 0), .lit (.int .u8 0), .lit (.int .u8 0), .lit (.int .u8 0), .lit (.int .u8 0), .lit (.int .u8 0), .lit (.int .u8 0), .lit (.int .u8 0), .lit (.int .u8 0), .lit (.int .u8 0), .lit (.int .u8 0), .lit (.int .u8 0), .lit (.int .u8 0), .lit (.int .u8 0), .lit (.int .u8 0), .lit (.int .u8 0), .lit (.int .u8 0), .lit (.int .u8 0), .lit (.int .u8 0), .lit (.int .u8 0), .lit (.int .u8 0), .lit (.int .u8 0), .lit (.int .u8 0), .lit (.int .u8 0), .lit (.int .u8 0), .lit (.int .u8 0), .lit (.int .u8 0), .lit (.int .u8 0), .lit (.int .u8 0), .lit (.int .u8 0), .lit (.int .u8 0), .lit (.int .u8 0), .lit (.int .u8 0), .lit (.int .u8 0), .lit (.int .u8 0), .lit (.int .u8 0), .lit (.int .u8 0), .lit (.int .u8 0), .lit (.int .u8 0), .lit (.int .u8 0), .lit (.int .u8 0), .lit (.int .u8 0), .lit (.int .u8 0), .lit (.int .u8 0), .lit (.int .u8 0), .lit (.int .u8 0), .lit (.int .u8 0), .lit (.int .u8 0), .lit (.int .u8 0), .lit (.int .u8 0), .lit (.int .u8 0), .lit (.int .u8 0), .lit (.int .u8 0), .lit (.int .u8 0), .lit (.int .u8 0), .lit (.int .u8 0), .lit (.int .u8 0), .lit (.int .u8 0), .lit (.int .u8 0), .lit (.int .u8 0), .lit (.int .u8 0), .lit (.int .u8 0), .lit (.int .u8 0), .lit (.int .u8 0), .lit (.int .u8 0), .lit (.int .u8 0), .lit (.int .u8 0), .lit (.int .u8 0), .lit (.int .u8 0), .lit (.int .u8 0), .lit (.int .u8 0), .lit (.int .u8 0), .lit (.int .u8 0), .lit (.int .u8 0), .lit (.int .u8 0), .lit (.int .u8 0), .lit (.int .u8 0), .lit (.int .u8 0), .lit (.int .u8 0), .lit (.int .u8 0), .lit (.int .u8 0), .lit (.int .u8 0), .lit (.int .u8 0), .lit (.int .u8 0), .lit (.int .u8 0), .lit (.int .u8 0), .lit (.int .u8 0), .lit (.int .u8 0), .lit (.int .u8 0), .lit (.int .u8 0), .lit (.int .u8 0), .lit (.int .u8 0), .lit (.int .u8 0), .lit (.int .u8 0), .lit (.int .u8 0), .lit (.int .u8 0), .lit (.int .u8 0), .lit (.int .u8 0), .lit (.int .u8 0), .lit (.int .u8 0), .lit (.int .u8 0), .lit (.int .u8 0), .lit (.int .u8 0), .lit (.int .u8 0), .lit (.int .u8 0), .lit (.int .u8 0), .lit (.int .u8 0), .lit (.int .u8 0), .lit (.int .u8 0), .lit (.int .u8 0), .lit (.int .u8 0), .lit (.int .u8 0), .lit (.int .u8 0), .lit (.int .u8 0), .lit (.int .u8 0), .lit (.int .u8 0), .lit (.int .u8 0), .lit (.int .u8 0), .lit (.int .u8 0), .lit (.int .u8 0), .lit (.int .u8 0), .lit (.int .u8 0), .lit (.int .u8 0), .lit (.int .u8 0), .lit (.int .u8 0), .lit (.int .u8 0), .lit (.int .u8 0), .lit (.int .u8 0), .lit (.int .u8 0), .lit (.int .u8 0), .lit (.int .u8 0), .lit (.int .u8 0), .lit (.int .u8 0), .lit (.int .u8 0), .lit (.int .u8 0), .lit (.int .u8 0), .lit (.int .u8 0), .lit (.int .u8 0), .lit (.int .u8 0), .lit (.int .u8 0), .lit (.int .u8 0), .lit (.int .u8 0), .lit (.int .u8 0), .lit (.int .u8 0), .lit (.int .u8 0), .lit (.int .u8 0), .lit (.int .u8 0), .lit (.int .u8 0), .lit (.int .u8 0)]

/-- 'confluentlaw27.MechanismValid': WHATEVER THE INPUT: true; the input reads as it did. -/
def mechanismValidSpec : ChangeSpec := { name := "mechanismValid", fn := fun _ => fun
  | [d1, d2] => { results := [.lit (.bool true)], args := [d1, d2] }
  | _ => none }
def mechanismValidRow : OpenClaim := { program := "ytcpgmmlaimkojaagreatdoor", sum := "1945104f4067d95368ffd29542c14dc173beb11ba889b7863f35b1978dadc7ff", func := "confluent/confluentlaw27.MechanismValid", spec := "mechanismValid", inPlace := ["internal/bytealg.IndexByteString"], unfollowed := true, recurses := true, named := ["strings.asciiSpace", "unicode.White_Space"], apart := false, laid := [("unicode.White_Space", laid_unicode_White_Space), ("strings.asciiSpace", laid_strings_asciiSpace)] }
def MechanismValidSaid : Prop := mechanismValidRow.holds Tryz.pinned (OpenSpec.ofChange mechanismValidSpec)

/-- ITS FALSE NEIGHBOUR: 'it returns false'. Refute it at one input. -/
def mechanismValidWrong : ChangeSpec := { name := "mechanismValid", fn := fun _ => fun
  | [d1, d2] => { results := [.lit (.bool false)], args := [d1, d2] }
  | _ => none }
def MechanismValidWrongFalsely : Prop := mechanismValidRow.holds Tryz.pinned (OpenSpec.ofChange mechanismValidWrong)

/-- 'confluentlaw27.MechanismLocks': WHATEVER THE INPUT: true; the input reads as it did. -/
def mechanismLocksSpec : ChangeSpec := { name := "mechanismLocks", fn := fun _ => fun
  | [d1, d2, d3, d4] => { results := [.lit (.bool true)], args := [d1, d2, d3, d4] }
  | _ => none }
def mechanismLocksRow : OpenClaim := { program := "ytcpgmmlaimkojaagreatdoor", sum := "1945104f4067d95368ffd29542c14dc173beb11ba889b7863f35b1978dadc7ff", func := "confluent/confluentlaw27.MechanismLocks", spec := "mechanismLocks", inPlace := ["internal/bytealg.IndexByteString"], unfollowed := true, recurses := true, named := ["strings.asciiSpace", "unicode.White_Space"], apart := false, laid := [("unicode.White_Space", laid_unicode_White_Space), ("strings.asciiSpace", laid_strings_asciiSpace)] }
def MechanismLocksSaid : Prop := mechanismLocksRow.holds Tryz.pinned (OpenSpec.ofChange mechanismLocksSpec)

/-- ITS FALSE NEIGHBOUR: 'it returns false'. Refute it at one input. -/
def mechanismLocksWrong : ChangeSpec := { name := "mechanismLocks", fn := fun _ => fun
  | [d1, d2, d3, d4] => { results := [.lit (.bool false)], args := [d1, d2, d3, d4] }
  | _ => none }
def MechanismLocksWrongFalsely : Prop := mechanismLocksRow.holds Tryz.pinned (OpenSpec.ofChange mechanismLocksWrong)

/-- 'confluentlaw27.MechanismNeeds': WHATEVER THE INPUT: true; the input reads as it did. -/
def mechanismNeedsSpec : ChangeSpec := { name := "mechanismNeeds", fn := fun _ => fun
  | [d1, d2, d3, d4, d5] => { results := [.lit (.bool true)], args := [d1, d2, d3, d4, d5] }
  | _ => none }
def mechanismNeedsRow : OpenClaim := { program := "ytcpgmmlaimkojaagreatdoor", sum := "1945104f4067d95368ffd29542c14dc173beb11ba889b7863f35b1978dadc7ff", func := "confluent/confluentlaw27.MechanismNeeds", spec := "mechanismNeeds", inPlace := ["internal/bytealg.IndexByteString"], unfollowed := true, recurses := true, named := ["strings.asciiSpace", "unicode.White_Space"], apart := false, laid := [("unicode.White_Space", laid_unicode_White_Space), ("strings.asciiSpace", laid_strings_asciiSpace)] }
def MechanismNeedsSaid : Prop := mechanismNeedsRow.holds Tryz.pinned (OpenSpec.ofChange mechanismNeedsSpec)

/-- ITS FALSE NEIGHBOUR: 'it returns false'. Refute it at one input. -/
def mechanismNeedsWrong : ChangeSpec := { name := "mechanismNeeds", fn := fun _ => fun
  | [d1, d2, d3, d4, d5] => { results := [.lit (.bool false)], args := [d1, d2, d3, d4, d5] }
  | _ => none }
def MechanismNeedsWrongFalsely : Prop := mechanismNeedsRow.holds Tryz.pinned (OpenSpec.ofChange mechanismNeedsWrong)

/-- 'confluentlaw27.MechanismExcludes': WHATEVER THE INPUT: true; the input reads as it did. -/
def mechanismExcludesSpec : ChangeSpec := { name := "mechanismExcludes", fn := fun _ => fun
  | [d1, d2, d3, d4] => { results := [.lit (.bool true)], args := [d1, d2, d3, d4] }
  | _ => none }
def mechanismExcludesRow : OpenClaim := { program := "ytcpgmmlaimkojaagreatdoor", sum := "1945104f4067d95368ffd29542c14dc173beb11ba889b7863f35b1978dadc7ff", func := "confluent/confluentlaw27.MechanismExcludes", spec := "mechanismExcludes", inPlace := ["internal/bytealg.IndexByteString"], unfollowed := true, recurses := true, named := ["strings.asciiSpace", "unicode.White_Space"], apart := false, laid := [("unicode.White_Space", laid_unicode_White_Space), ("strings.asciiSpace", laid_strings_asciiSpace)] }
def MechanismExcludesSaid : Prop := mechanismExcludesRow.holds Tryz.pinned (OpenSpec.ofChange mechanismExcludesSpec)

/-- ITS FALSE NEIGHBOUR: 'it returns false'. Refute it at one input. -/
def mechanismExcludesWrong : ChangeSpec := { name := "mechanismExcludes", fn := fun _ => fun
  | [d1, d2, d3, d4] => { results := [.lit (.bool false)], args := [d1, d2, d3, d4] }
  | _ => none }
def MechanismExcludesWrongFalsely : Prop := mechanismExcludesRow.holds Tryz.pinned (OpenSpec.ofChange mechanismExcludesWrong)

/-- 'confluentlaw27.MechanismSlack': WHATEVER THE INPUT: true; the input reads as it did. -/
def mechanismSlackSpec : ChangeSpec := { name := "mechanismSlack", fn := fun _ => fun
  | [d1, d2, d3, d4, d5] => { results := [.lit (.bool true)], args := [d1, d2, d3, d4, d5] }
  | _ => none }
def mechanismSlackRow : OpenClaim := { program := "ytcpgmmlaimkojaagreatdoor", sum := "1945104f4067d95368ffd29542c14dc173beb11ba889b7863f35b1978dadc7ff", func := "confluent/confluentlaw27.MechanismSlack", spec := "mechanismSlack", inPlace := ["internal/bytealg.IndexByteString"], unfollowed := true, recurses := true, named := ["strings.asciiSpace", "unicode.White_Space"], apart := false, laid := [("unicode.White_Space", laid_unicode_White_Space), ("strings.asciiSpace", laid_strings_asciiSpace)] }
def MechanismSlackSaid : Prop := mechanismSlackRow.holds Tryz.pinned (OpenSpec.ofChange mechanismSlackSpec)

/-- ITS FALSE NEIGHBOUR: 'it returns false'. Refute it at one input. -/
def mechanismSlackWrong : ChangeSpec := { name := "mechanismSlack", fn := fun _ => fun
  | [d1, d2, d3, d4, d5] => { results := [.lit (.bool false)], args := [d1, d2, d3, d4, d5] }
  | _ => none }
def MechanismSlackWrongFalsely : Prop := mechanismSlackRow.holds Tryz.pinned (OpenSpec.ofChange mechanismSlackWrong)

/-- 'confluentlaw27.MechanismShares': WHATEVER THE INPUT: true; the input reads as it did. -/
def mechanismSharesSpec : ChangeSpec := { name := "mechanismShares", fn := fun _ => fun
  | [d1, d2, d3, d4, d5] => { results := [.lit (.bool true)], args := [d1, d2, d3, d4, d5] }
  | _ => none }
def mechanismSharesRow : OpenClaim := { program := "ytcpgmmlaimkojaagreatdoor", sum := "1945104f4067d95368ffd29542c14dc173beb11ba889b7863f35b1978dadc7ff", func := "confluent/confluentlaw27.MechanismShares", spec := "mechanismShares", inPlace := ["internal/bytealg.IndexByteString"], unfollowed := true, recurses := true, named := ["strings.asciiSpace", "unicode.White_Space"], apart := false, laid := [("unicode.White_Space", laid_unicode_White_Space), ("strings.asciiSpace", laid_strings_asciiSpace)] }
def MechanismSharesSaid : Prop := mechanismSharesRow.holds Tryz.pinned (OpenSpec.ofChange mechanismSharesSpec)

/-- ITS FALSE NEIGHBOUR: 'it returns false'. Refute it at one input. -/
def mechanismSharesWrong : ChangeSpec := { name := "mechanismShares", fn := fun _ => fun
  | [d1, d2, d3, d4, d5] => { results := [.lit (.bool false)], args := [d1, d2, d3, d4, d5] }
  | _ => none }
def MechanismSharesWrongFalsely : Prop := mechanismSharesRow.holds Tryz.pinned (OpenSpec.ofChange mechanismSharesWrong)

/-- 'confluentlaw27.MechanismMore': WHATEVER THE INPUT: true; the input reads as it did. -/
def mechanismMoreSpec : ChangeSpec := { name := "mechanismMore", fn := fun _ => fun
  | [d1, d2, d3, d4, d5] => { results := [.lit (.bool true)], args := [d1, d2, d3, d4, d5] }
  | _ => none }
def mechanismMoreRow : OpenClaim := { program := "ytcpgmmlaimkojaagreatdoor", sum := "1945104f4067d95368ffd29542c14dc173beb11ba889b7863f35b1978dadc7ff", func := "confluent/confluentlaw27.MechanismMore", spec := "mechanismMore", inPlace := ["internal/bytealg.IndexByteString"], unfollowed := true, recurses := true, named := ["strings.asciiSpace", "unicode.White_Space"], apart := false, laid := [("unicode.White_Space", laid_unicode_White_Space), ("strings.asciiSpace", laid_strings_asciiSpace)] }
def MechanismMoreSaid : Prop := mechanismMoreRow.holds Tryz.pinned (OpenSpec.ofChange mechanismMoreSpec)

/-- ITS FALSE NEIGHBOUR: 'it returns false'. Refute it at one input. -/
def mechanismMoreWrong : ChangeSpec := { name := "mechanismMore", fn := fun _ => fun
  | [d1, d2, d3, d4, d5] => { results := [.lit (.bool false)], args := [d1, d2, d3, d4, d5] }
  | _ => none }
def MechanismMoreWrongFalsely : Prop := mechanismMoreRow.holds Tryz.pinned (OpenSpec.ofChange mechanismMoreWrong)

/- THE SECOND FORM. 'bulk': how many values and letters a reading holds, each counted each time it is reached (what is shared counts as often as it is met; a slice's spare places count too). A statement '..UptoSaid' is the law's where the arguments, and the package variables that the reading takes, are together of bulk at most 1048576: NARROWER than '..Said'. Prove '..Said' where nothing that the law and all that it calls make is longer than what came in: it says more and counts as full. Else prove '..UptoSaid'. A law counts once. -/
mutual
def uptoBulk {H : Type} : DataW H → Nat
  | .lit (.string bytes) => bytes.length + 1
  | .lit _ => 1
  | .nil => 1
  | .ptr d => uptoBulk d + 1
  | .slice elems spare => uptoBulkAll elems + uptoBulkAll spare + 1
  | .agg parts => uptoBulkAll parts + 1
  | .iface _ d => uptoBulk d + 1
  | .map entries => uptoBulkEntries entries + 1
  | .held _ => 1
def uptoBulkAll {H : Type} : List (DataW H) → Nat
  | [] => 0
  | d :: r => uptoBulk d + uptoBulkAll r
def uptoBulkEntries {H : Type} : List (Lit × DataW H) → Nat
  | [] => 0
  | x :: r => uptoBulkEntry x + uptoBulkEntries r
def uptoBulkEntry {H : Type} : Lit × DataW H → Nat
  | (.string bytes, d) => bytes.length + uptoBulk d + 1
  | (_, d) => uptoBulk d + 1
 end
def uptoSmall : (H : Type) → List (DataW H) → Bool := fun _ ds => decide (uptoBulkAll ds ≤ 1048576)
def OpenSpec.upto (s : _root_.Go.ChangeSpec) : _root_.Go.OpenSpec := { _root_.Go.OpenSpec.ofChange s with cond := some uptoSmall }

/-- 'confluentlaw27.MechanismValid', WHERE WHAT IT READS IS OF BULK AT MOST 1048576: true; the input reads as it did. -/
def mechanismValidUptoRow : OpenClaim := { program := "ytcpgmmlaimkojaagreatdoor", sum := "1945104f4067d95368ffd29542c14dc173beb11ba889b7863f35b1978dadc7ff", func := "confluent/confluentlaw27.MechanismValid", spec := "mechanismValid", inPlace := ["internal/bytealg.IndexByteString"], unfollowed := true, recurses := true, named := ["strings.asciiSpace", "unicode.White_Space"], apart := false, laid := [("unicode.White_Space", laid_unicode_White_Space), ("strings.asciiSpace", laid_strings_asciiSpace)], narrowed := true }
def MechanismValidUptoSaid : Prop := mechanismValidUptoRow.holds Tryz.pinned (OpenSpec.upto mechanismValidSpec)

/-- 'confluentlaw27.MechanismLocks', WHERE WHAT IT READS IS OF BULK AT MOST 1048576: true; the input reads as it did. -/
def mechanismLocksUptoRow : OpenClaim := { program := "ytcpgmmlaimkojaagreatdoor", sum := "1945104f4067d95368ffd29542c14dc173beb11ba889b7863f35b1978dadc7ff", func := "confluent/confluentlaw27.MechanismLocks", spec := "mechanismLocks", inPlace := ["internal/bytealg.IndexByteString"], unfollowed := true, recurses := true, named := ["strings.asciiSpace", "unicode.White_Space"], apart := false, laid := [("unicode.White_Space", laid_unicode_White_Space), ("strings.asciiSpace", laid_strings_asciiSpace)], narrowed := true }
def MechanismLocksUptoSaid : Prop := mechanismLocksUptoRow.holds Tryz.pinned (OpenSpec.upto mechanismLocksSpec)

/-- 'confluentlaw27.MechanismNeeds', WHERE WHAT IT READS IS OF BULK AT MOST 1048576: true; the input reads as it did. -/
def mechanismNeedsUptoRow : OpenClaim := { program := "ytcpgmmlaimkojaagreatdoor", sum := "1945104f4067d95368ffd29542c14dc173beb11ba889b7863f35b1978dadc7ff", func := "confluent/confluentlaw27.MechanismNeeds", spec := "mechanismNeeds", inPlace := ["internal/bytealg.IndexByteString"], unfollowed := true, recurses := true, named := ["strings.asciiSpace", "unicode.White_Space"], apart := false, laid := [("unicode.White_Space", laid_unicode_White_Space), ("strings.asciiSpace", laid_strings_asciiSpace)], narrowed := true }
def MechanismNeedsUptoSaid : Prop := mechanismNeedsUptoRow.holds Tryz.pinned (OpenSpec.upto mechanismNeedsSpec)

/-- 'confluentlaw27.MechanismExcludes', WHERE WHAT IT READS IS OF BULK AT MOST 1048576: true; the input reads as it did. -/
def mechanismExcludesUptoRow : OpenClaim := { program := "ytcpgmmlaimkojaagreatdoor", sum := "1945104f4067d95368ffd29542c14dc173beb11ba889b7863f35b1978dadc7ff", func := "confluent/confluentlaw27.MechanismExcludes", spec := "mechanismExcludes", inPlace := ["internal/bytealg.IndexByteString"], unfollowed := true, recurses := true, named := ["strings.asciiSpace", "unicode.White_Space"], apart := false, laid := [("unicode.White_Space", laid_unicode_White_Space), ("strings.asciiSpace", laid_strings_asciiSpace)], narrowed := true }
def MechanismExcludesUptoSaid : Prop := mechanismExcludesUptoRow.holds Tryz.pinned (OpenSpec.upto mechanismExcludesSpec)

/-- 'confluentlaw27.MechanismSlack', WHERE WHAT IT READS IS OF BULK AT MOST 1048576: true; the input reads as it did. -/
def mechanismSlackUptoRow : OpenClaim := { program := "ytcpgmmlaimkojaagreatdoor", sum := "1945104f4067d95368ffd29542c14dc173beb11ba889b7863f35b1978dadc7ff", func := "confluent/confluentlaw27.MechanismSlack", spec := "mechanismSlack", inPlace := ["internal/bytealg.IndexByteString"], unfollowed := true, recurses := true, named := ["strings.asciiSpace", "unicode.White_Space"], apart := false, laid := [("unicode.White_Space", laid_unicode_White_Space), ("strings.asciiSpace", laid_strings_asciiSpace)], narrowed := true }
def MechanismSlackUptoSaid : Prop := mechanismSlackUptoRow.holds Tryz.pinned (OpenSpec.upto mechanismSlackSpec)

/-- 'confluentlaw27.MechanismShares', WHERE WHAT IT READS IS OF BULK AT MOST 1048576: true; the input reads as it did. -/
def mechanismSharesUptoRow : OpenClaim := { program := "ytcpgmmlaimkojaagreatdoor", sum := "1945104f4067d95368ffd29542c14dc173beb11ba889b7863f35b1978dadc7ff", func := "confluent/confluentlaw27.MechanismShares", spec := "mechanismShares", inPlace := ["internal/bytealg.IndexByteString"], unfollowed := true, recurses := true, named := ["strings.asciiSpace", "unicode.White_Space"], apart := false, laid := [("unicode.White_Space", laid_unicode_White_Space), ("strings.asciiSpace", laid_strings_asciiSpace)], narrowed := true }
def MechanismSharesUptoSaid : Prop := mechanismSharesUptoRow.holds Tryz.pinned (OpenSpec.upto mechanismSharesSpec)

/-- 'confluentlaw27.MechanismMore', WHERE WHAT IT READS IS OF BULK AT MOST 1048576: true; the input reads as it did. -/
def mechanismMoreUptoRow : OpenClaim := { program := "ytcpgmmlaimkojaagreatdoor", sum := "1945104f4067d95368ffd29542c14dc173beb11ba889b7863f35b1978dadc7ff", func := "confluent/confluentlaw27.MechanismMore", spec := "mechanismMore", inPlace := ["internal/bytealg.IndexByteString"], unfollowed := true, recurses := true, named := ["strings.asciiSpace", "unicode.White_Space"], apart := false, laid := [("unicode.White_Space", laid_unicode_White_Space), ("strings.asciiSpace", laid_strings_asciiSpace)], narrowed := true }
def MechanismMoreUptoSaid : Prop := mechanismMoreUptoRow.holds Tryz.pinned (OpenSpec.upto mechanismMoreSpec)

end Rows
end Go.Proofs.YtcpgmmlaimkojaaGreatDoor
