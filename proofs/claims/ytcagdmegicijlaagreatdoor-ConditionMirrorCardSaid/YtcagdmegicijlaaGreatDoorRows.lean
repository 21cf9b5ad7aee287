/-
  NARROWER THAN 'FOR EVERY INPUT', by the rows' own cells (each row's printed sentence says how): ConditionChanges: laid · ConditionQuestions: laid · ConditionSystems: laid · ConditionMeans: laid · ConditionOpen: laid · ConditionRelative: laid · ConditionMirror: laid.
  DERIVED. THE GIVEN ROWS OF THIS SEAT. 7 by the template 'for every input the law returns true; each argument reads behind the call as it read before'; 0 by the template 'total and deterministic' (their statements: YtcagdmegicijlaaGreatDoorTotals.lean).
  GIVEN WITH THE SEED: the statements are not yours to turn. If you find one false, say at which input.
  Laid BY PROGRAM, IN A SANDBOX (cutbox-rows.mjs): the forced cells as the released guide's own fill.sh prints them over the translation 0bd2f100c1805a56… (all of the seat's roots in one cut). By AI agents, Wed Nov 11 2026. No macro, syntax, notation, axiom, sorry.
-/
import Derived.Test.YtcagdmegicijlaaGreatDoorChecked
import GoSem.Claim
import GoSem.ClaimJoined
import GoSem.ClaimMapViews
import Derived.JoinedTies
import Derived.KernelRfl
namespace Go.Proofs.YtcagdmegicijlaaGreatDoor
/- THE CELL 'sum', in the pinned program and in every row, IS THE sha256 OF THE DUMP (.gsa) THAT YtcagdmegicijlaaGreatDoorProg.lean LOADS. Nothing in Lean hashes anything: it is a label: what it is worth is what the hold of that sum in a sandbox is worth. -/
noncomputable def Tryz.pinned : Pinned := { name := "ytcagdmegicijlaagreatdoor", sum := "0bd2f100c1805a56ba51c9c9baf6ae5c02dd1658265b53088f5002c3be868560", checked := Tryz.checked }
namespace Rows
def none {H : Type} : Left H := { results := [], args := [] }

/- WHAT THE LISTED PACKAGE-LEVEL VARIABLES READ AS WHEN THE CALL BEGINS. Each datum BY PROGRAM (the guide's laid-datum.mjs) off the statement by which the dump's own 'gosem.cut.vars' lays the variable. In a bare row this is a premise. The card (YtcagdmegicijlaaGreatDoorCards.lean) ties it to the program's text. -/
def laid_unicode_White_Space {H : Type} : DataW H := .ptr (.agg [.slice [.agg [.lit (.int .u16 9), .lit (.int .u16 13), .lit (.int .u16 1)], .agg [.lit (.int .u16 32), .lit (.int .u16 133), .lit (.int .u16 101)], .agg [.lit (.int .u16 160), .lit (.int .u16 5760), .lit (.int .u16 5600)], .agg [.lit (.int .u16 8192), .lit (.int .u16 8202), .lit (.int .u16 1)], .agg [.lit (.int .u16 8232), .lit (.int .u16 8233), .lit (.int .u16 1)], .agg [.lit (.int .u16 8239), .lit (.int .u16 8287), .lit (.int .u16 48)], .agg [.lit (.int .u16 12288), .lit (.int .u16 12288), .lit (.int .u16 1)]] [], .nil, .lit (.int .i64 2)])
def laid_strings_asciiSpace {H : Type} : DataW H := .agg [.lit (.int .u8 0), .lit (.int .u8 0), .lit (.int .u8 0), .lit (.int .u8 0), .lit (.int .u8 0), .lit (.int .u8 0), .lit (.int .u8 0), .lit (.int .u8 0), .lit (.int .u8 0), .lit (.int .u8 1), .lit (.int .u8 1), .lit (.int .u8 1), .lit (.int .u8 1), .lit (.int .u8 1), .lit (.int .u8 0), .lit (.int .u8 0), .lit (.int .u8 0), .lit (.int .u8 0), .lit (.int .u8 0), .lit (.int .u8 0), .lit (.int .u8 0), .lit (.int .u8 0), .lit (.int .u8 0), .lit (.int .u8 0), .lit (.int .u8 0), .lit (.int .u8 0), .lit (.int .u8 0), .lit (.int .u8 0), .lit (.int .u8 0), .lit (.int .u8 0), .lit (.int .u8 0), .lit (.int .u8 0), .lit (.int .u8 1), .lit (.int .u8 0), .lit (.int .u8 0), .lit (.int .u8 0), .lit (.int .u8 0), .lit (.int .u8 0), .lit (.int .u8 0), .lit (.int .u8 0), .lit (.int .u8 0), .lit (.int .u8 0), .lit (.int .u8 0), .lit (.int .u8 0), .lit (.int .u8 0), .lit (.int .u8 0), .lit (.int .u8 0), .lit (.int .u8 0), .lit (.int .u8 0), .lit (.int .u8 0), .lit (.int .u8 0), .lit (.int .u8 0), .lit (.int .u8 0), .lit (.int .u8 0), .lit (.int .u8 0), .lit (.int .u8 0), .lit (.int .u8 0), .lit (.int .u8 0), .lit (.int .u8 0), .lit (.int .u8 0), .lit (.int .u8 0), .lit (.int .u8 0), .lit (.int .u8 0), .lit (.int .u8 0), .lit (.int .u8 0), .lit (.int .u8 0), .lit (.int .u8 0), .lit (.int .u8 0), .lit (.int .u8 0), .lit (.int .u8 0), .lit (.int .u8 0), .lit (.int .u8 0), .lit (.int .u8 0), .lit (.int .u8 0), .lit (.int .u8 0), .lit (.int .u8 0), .lit (.int .u8 0), .lit (.int .u8 0), .lit (.int .u8 0), .lit (.int .u8 0), .lit (.int .u8 0), .lit (.int .u8 0), .lit (.int .u8 0), .lit (.int .u8 0), .lit (.int .u8 0), .lit (.int .u8 0), .lit (.int .u8 0), .lit (.int .u8 0), .lit (.int .u8 0), .lit (.int .u8 0), .lit (.int .u8 0), .lit (.int .u8 0), .lit (.int .u8 0), .lit (.int .u8 0), .lit (.int .u8 0), .lit (.int .u8 0), .lit (.int .u8 0), .lit (.int .u8 0), .lit (.int .u8 0), .lit (.int .u8 0), .lit (.int .u8 0), .lit (.int .u8 0), .lit (.int .u8 0), .lit (.int .u8 0), .lit (.int .u8 0), .lit (.int .u8 0), .lit (.int .u8 0), .lit (.int .u8 0), .lit (.int .u8 0), .lit (.int .u8 0), .lit (.int .u8 0), .lit (.int .u8 0), .lit (.int .u8 0), .lit (.int .u8 0), .lit (.int .u8 0), .lit (.int .u8 0), .lit (.int .u8 0), .lit (.int .u8 0), .lit (.int .u8 0), .lit (.int .u8 0), .lit (.int .u8 0), .lit (.int .u8 0), .lit (.int .u8 0), .lit (.int .u8 0), .lit (.int .u8 0), .lit (.int .u8 0), .lit (.int .u8 0), .lit (.int .u8 0), .lit (.int .u8 0), .lit (.int .u8 0), .lit (.int .u8 0), .lit (.int .u8 0), .lit (.int .u8 0), .lit (.int .u8 0), .lit (.int .u8 0), .lit (.int .u8 0), .lit (.int .u8 0), .lit (.int .u8 0), .lit (.int .u8 0), .lit (.int .u8 0), .lit (.int .u8 0), .lit (.int .u8 0), .lit (.int .u8 0), .lit (.int .u8 0), .lit (.int .u8 0), .lit (.int .u8 0), .lit (.int .u8 0), .lit (.int .u8 0), .lit (.int .u8 0), .lit (.int .u8 0), .lit (.int .u8 0), .lit (.int .u8 0), .lit (.int .u8 0), .lit (.int .u8 0), .lit (.int .u8 0), .lit (.int .u8 0), .lit (.int .u8 0), .lit (.int .u8 0), .lit (.int .u8 0), .lit (.int .u8 0), .lit (.int .u8 0), .lit (.int .u8 0), .lit (.int .u8 0), .lit (.int .u8 0), .lit (.int .u8 0), .lit (.int .u8 0), .lit (.int .u8 0), .lit (.int .u8 0), .lit (.int .u8 0), .lit (.int .u8 0), .lit (.int .u8 0), .lit (.int .u8 0), .lit (.int .u8 0), .lit (.int .u8 0), .lit (.int .u8 0), .lit (.int .u8 0), .lit (.int .u8 0), .lit (.int .u8 0), .lit (.int .u8 0), .lit (.int .u8 0), .lit (.int .u8 0), .lit (.int .u8 0), .lit (.int .u8 0), .lit (.int .u8 0), .lit (.int .u8 0), .lit (.int .u8 0), .lit (.int .u8 0), .lit (.int .u8 0), .lit (.int .u8 0), .lit (.int .u8 0), .lit (.int .u8 0), .lit (.int .u8 0), .lit (.int .u8 0), .lit (.int .u8 0), .lit (.int .u8 0), .lit (.int .u8 0), .lit (.int .u8 0), .lit (.int .u8 0), .lit (.int .u8 0), .lit (.int .u8 0), .lit (.int .u8 0), .lit (.int .u8 0), .lit (.int .u8 0), .lit (.int .u8 0), .lit (.int .u8 0), .lit (.int .u8 0), .lit (.int .u8 0), .lit (.int .u8 0), .lit (.int .u8 0), .lit (.int .u8 0), .lit (.int .u8 0), .lit (.int .u8 0), .lit (.int .u8 0), .lit (.int .u8 0), .lit (.int .u8 0), .lit (.int .u8 0), .lit (.int .u8 0), .lit (.int .u8 0), .lit (.int .u8 0), .lit (.int .u8 0), .lit (.int .u8 0), .lit (.int .u8 0), .lit (.int .u8 0), .lit (.int .u8 0), .lit (.int .u8 0), .lit (.int .u8 0), .lit (.int .u8 0), .lit (.int .u8 0), .lit (.int .u8 0), .lit (.int .u8 0), .lit (.int .u8 0), .lit (.int .u8 0), .lit (.int .u8 0), .lit (.int .u8 0), .lit (.int .u8 0), .lit (.int .u8 0), .lit (.int .u8 0), .lit (.int .u8 0), .lit (.int .u8 0), .lit (.int .u8 0), .lit (.int .u8 0), .lit (.int .u8 0), .lit (.int .u8 0), .lit (.int .u8 0), .lit (.int .u8 0), .lit (.int .u8 0), .lit (.int .u8 0), .lit (.int .u8 0), .lit (.int .u8 0), .lit (.int .u8 0), .lit (.int .u8 0), .lit (.int .u8 0), .lit (.int .u8 0), .lit (.int .u8 0), .lit (.int .u8 0), .lit (.int .u8 0)]

/-- 'confluentlaw22.ConditionChanges': WHATEVER THE INPUT: true; the input reads as it did. -/
def conditionChangesSpec : ChangeSpec := { name := "conditionChanges", fn := fun _ => fun
  | [d1, d2, d3, d4] => { results := [.lit (.bool true)], args := [d1, d2, d3, d4] }
  | _ => none }
def conditionChangesRow : OpenClaim := { program := "ytcagdmegicijlaagreatdoor", sum := "0bd2f100c1805a56ba51c9c9baf6ae5c02dd1658265b53088f5002c3be868560", func := "confluent/confluentlaw22.ConditionChanges", spec := "conditionChanges", inPlace := ["internal/bytealg.IndexByteString"], unfollowed := true, recurses := true, named := ["strings.asciiSpace", "unicode.White_Space"], apart := false, laid := [("unicode.White_Space", laid_unicode_White_Space), ("strings.asciiSpace", laid_strings_asciiSpace)] }
def ConditionChangesSaid : Prop := conditionChangesRow.holds Tryz.pinned (OpenSpec.ofChange conditionChangesSpec)

/-- ITS FALSE NEIGHBOUR: 'it returns false'. Refute it at one input. -/
def conditionChangesWrong : ChangeSpec := { name := "conditionChanges", fn := fun _ => fun
  | [d1, d2, d3, d4] => { results := [.lit (.bool false)], args := [d1, d2, d3, d4] }
  | _ => none }
def ConditionChangesWrongFalsely : Prop := conditionChangesRow.holds Tryz.pinned (OpenSpec.ofChange conditionChangesWrong)

/-- 'confluentlaw22.ConditionQuestions': WHATEVER THE INPUT: true; the input reads as it did. -/
def conditionQuestionsSpec : ChangeSpec := { name := "conditionQuestions", fn := fun _ => fun
  | [d] => { results := [.lit (.bool true)], args := [d] }
  | _ => none }
def conditionQuestionsRow : OpenClaim := { program := "ytcagdmegicijlaagreatdoor", sum := "0bd2f100c1805a56ba51c9c9baf6ae5c02dd1658265b53088f5002c3be868560", func := "confluent/confluentlaw22.ConditionQuestions", spec := "conditionQuestions", inPlace := ["internal/bytealg.IndexByteString"], unfollowed := true, recurses := true, named := ["strings.asciiSpace", "unicode.White_Space"], apart := false, laid := [("unicode.White_Space", laid_unicode_White_Space), ("strings.asciiSpace", laid_strings_asciiSpace)] }
def ConditionQuestionsSaid : Prop := conditionQuestionsRow.holds Tryz.pinned (OpenSpec.ofChange conditionQuestionsSpec)

/-- ITS FALSE NEIGHBOUR: 'it returns false'. Refute it at one input. -/
def conditionQuestionsWrong : ChangeSpec := { name := "conditionQuestions", fn := fun _ => fun
  | [d] => { results := [.lit (.bool false)], args := [d] }
  | _ => none }
def ConditionQuestionsWrongFalsely : Prop := conditionQuestionsRow.holds Tryz.pinned (OpenSpec.ofChange conditionQuestionsWrong)

/-- 'confluentlaw22.ConditionSystems': WHATEVER THE INPUT: true; the input reads as it did. -/
def conditionSystemsSpec : ChangeSpec := { name := "conditionSystems", fn := fun _ => fun
  | [d1, d2, d3] => { results := [.lit (.bool true)], args := [d1, d2, d3] }
  | _ => none }
def conditionSystemsRow : OpenClaim := { program := "ytcagdmegicijlaagreatdoor", sum := "0bd2f100c1805a56ba51c9c9baf6ae5c02dd1658265b53088f5002c3be868560", func := "confluent/confluentlaw22.ConditionSystems", spec := "conditionSystems", inPlace := ["internal/bytealg.IndexByteString"], unfollowed := true, recurses := true, named := ["strings.asciiSpace", "unicode.White_Space"], apart := false, laid := [("unicode.White_Space", laid_unicode_White_Space), ("strings.asciiSpace", laid_strings_asciiSpace)] }
def ConditionSystemsSaid : Prop := conditionSystemsRow.holds Tryz.pinned (OpenSpec.ofChange conditionSystemsSpec)

/-- ITS FALSE NEIGHBOUR: 'it returns false'. Refute it at one input. -/
def conditionSystemsWrong : ChangeSpec := { name := "conditionSystems", fn := fun _ => fun
  | [d1, d2, d3] => { results := [.lit (.bool false)], args := [d1, d2, d3] }
  | _ => none }
def ConditionSystemsWrongFalsely : Prop := conditionSystemsRow.holds Tryz.pinned (OpenSpec.ofChange conditionSystemsWrong)

/-- 'confluentlaw22.ConditionMeans': WHATEVER THE INPUT: true; the input reads as it did. -/
def conditionMeansSpec : ChangeSpec := { name := "conditionMeans", fn := fun _ => fun
  | [d1, d2, d3] => { results := [.lit (.bool true)], args := [d1, d2, d3] }
  | _ => none }
def conditionMeansRow : OpenClaim := { program := "ytcagdmegicijlaagreatdoor", sum := "0bd2f100c1805a56ba51c9c9baf6ae5c02dd1658265b53088f5002c3be868560", func := "confluent/confluentlaw22.ConditionMeans", spec := "conditionMeans", inPlace := ["internal/bytealg.IndexByteString"], unfollowed := true, recurses := true, named := ["strings.asciiSpace", "unicode.White_Space"], apart := false, laid := [("unicode.White_Space", laid_unicode_White_Space), ("strings.asciiSpace", laid_strings_asciiSpace)] }
def ConditionMeansSaid : Prop := conditionMeansRow.holds Tryz.pinned (OpenSpec.ofChange conditionMeansSpec)

/-- ITS FALSE NEIGHBOUR: 'it returns false'. Refute it at one input. -/
def conditionMeansWrong : ChangeSpec := { name := "conditionMeans", fn := fun _ => fun
  | [d1, d2, d3] => { results := [.lit (.bool false)], args := [d1, d2, d3] }
  | _ => none }
def ConditionMeansWrongFalsely : Prop := conditionMeansRow.holds Tryz.pinned (OpenSpec.ofChange conditionMeansWrong)

/-- 'confluentlaw22.ConditionOpen': WHATEVER THE INPUT: true; the input reads as it did. -/
def conditionOpenSpec : ChangeSpec := { name := "conditionOpen", fn := fun _ => fun
  | [d1, d2] => { results := [.lit (.bool true)], args := [d1, d2] }
  | _ => none }
def conditionOpenRow : OpenClaim := { program := "ytcagdmegicijlaagreatdoor", sum := "0bd2f100c1805a56ba51c9c9baf6ae5c02dd1658265b53088f5002c3be868560", func := "confluent/confluentlaw22.ConditionOpen", spec := "conditionOpen", inPlace := ["internal/bytealg.IndexByteString"], unfollowed := true, recurses := true, named := ["strings.asciiSpace", "unicode.White_Space"], apart := false, laid := [("unicode.White_Space", laid_unicode_White_Space), ("strings.asciiSpace", laid_strings_asciiSpace)] }
def ConditionOpenSaid : Prop := conditionOpenRow.holds Tryz.pinned (OpenSpec.ofChange conditionOpenSpec)

/-- ITS FALSE NEIGHBOUR: 'it returns false'. Refute it at one input. -/
def conditionOpenWrong : ChangeSpec := { name := "conditionOpen", fn := fun _ => fun
  | [d1, d2] => { results := [.lit (.bool false)], args := [d1, d2] }
  | _ => none }
def ConditionOpenWrongFalsely : Prop := conditionOpenRow.holds Tryz.pinned (OpenSpec.ofChange conditionOpenWrong)

/-- 'confluentlaw22.ConditionRelative': WHATEVER THE INPUT: true; the input reads as it did. -/
def conditionRelativeSpec : ChangeSpec := { name := "conditionRelative", fn := fun _ => fun
  | [d1, d2, d3] => { results := [.lit (.bool true)], args := [d1, d2, d3] }
  | _ => none }
def conditionRelativeRow : OpenClaim := { program := "ytcagdmegicijlaagreatdoor", sum := "0bd2f100c1805a56ba51c9c9baf6ae5c02dd1658265b53088f5002c3be868560", func := "confluent/confluentlaw22.ConditionRelative", spec := "conditionRelative", inPlace := ["internal/bytealg.IndexByteString"], unfollowed := true, recurses := true, named := ["strings.asciiSpace", "unicode.White_Space"], apart := false, laid := [("unicode.White_Space", laid_unicode_White_Space), ("strings.asciiSpace", laid_strings_asciiSpace)] }
def ConditionRelativeSaid : Prop := conditionRelativeRow.holds Tryz.pinned (OpenSpec.ofChange conditionRelativeSpec)

/-- ITS FALSE NEIGHBOUR: 'it returns false'. Refute it at one input. -/
def conditionRelativeWrong : ChangeSpec := { name := "conditionRelative", fn := fun _ => fun
  | [d1, d2, d3] => { results := [.lit (.bool false)], args := [d1, d2, d3] }
  | _ => none }
def ConditionRelativeWrongFalsely : Prop := conditionRelativeRow.holds Tryz.pinned (OpenSpec.ofChange conditionRelativeWrong)

/-- 'confluentlaw22.ConditionMirror': WHATEVER THE INPUT: true; the input reads as it did. -/
def conditionMirrorSpec : ChangeSpec := { name := "conditionMirror", fn := fun _ => fun
  | [d1, d2, d3, d4] => { results := [.lit (.bool true)], args := [d1, d2, d3, d4] }
  | _ => none }
def conditionMirrorRow : OpenClaim := { program := "ytcagdmegicijlaagreatdoor", sum := "0bd2f100c1805a56ba51c9c9baf6ae5c02dd1658265b53088f5002c3be868560", func := "confluent/confluentlaw22.ConditionMirror", spec := "conditionMirror", inPlace := ["internal/bytealg.IndexByteString"], unfollowed := true, recurses := true, named := ["strings.asciiSpace", "unicode.White_Space"], apart := false, laid := [("unicode.White_Space", laid_unicode_White_Space), ("strings.asciiSpace", laid_strings_asciiSpace)] }
def ConditionMirrorSaid : Prop := conditionMirrorRow.holds Tryz.pinned (OpenSpec.ofChange conditionMirrorSpec)

/-- ITS FALSE NEIGHBOUR: 'it returns false'. Refute it at one input. -/
def conditionMirrorWrong : ChangeSpec := { name := "conditionMirror", fn := fun _ => fun
  | [d1, d2, d3, d4] => { results := [.lit (.bool false)], args := [d1, d2, d3, d4] }
  | _ => none }
def ConditionMirrorWrongFalsely : Prop := conditionMirrorRow.holds Tryz.pinned (OpenSpec.ofChange conditionMirrorWrong)

/- THE SECOND FORM. 'bulk': how many values and letters a reading holds, each counted each time it is reached (what is shared counts as often as it is met; a slice's spare places count too). A statement '..UptoSaid' is the law's where the arguments, and the package variables that the reading takes, are together of bulk at most 1048576: NARROWER than '..Said'. Prove '..Said' where nothing that the law and all that it calls make is longer than what came in: it says more and counts as full. Else prove '..UptoSaid'. A law counts once. -/
mutual
def uptoBulk {H : Type} : DataW H → Nat
  | .lit (.string bytes) => bytes.length + 1
  | .lit _ => 1
  | .nil => 1
  | .ptr d => uptoBulk d + 1
  | .slice elems spare => uptoBulkAll elems + uptoBulkAll spare + 1
  | .agg parts => uptoBulkAll parts + 1
  | .iface _ d => uptoBulk d + 1
  | .map entries => uptoBulkEntries entries + 1
  | .held _ => 1
def uptoBulkAll {H : Type} : List (DataW H) → Nat
  | [] => 0
  | d :: r => uptoBulk d + uptoBulkAll r
def uptoBulkEntries {H : Type} : List (Lit × DataW H) → Nat
  | [] => 0
  | x :: r => uptoBulkEntry x + uptoBulkEntries r
def uptoBulkEntry {H : Type} : Lit × DataW H → Nat
  | (.string bytes, d) => bytes.length + uptoBulk d + 1
  | (_, d) => uptoBulk d + 1
 end
def uptoSmall : (H : Type) → List (DataW H) → Bool := fun _ ds => decide (uptoBulkAll ds ≤ 1048576)
def OpenSpec.upto (s : _root_.Go.ChangeSpec) : _root_.Go.OpenSpec := { _root_.Go.OpenSpec.ofChange s with cond := some uptoSmall }

/-- 'confluentlaw22.ConditionChanges', WHERE WHAT IT READS IS OF BULK AT MOST 1048576: true; the input reads as it did. -/
def conditionChangesUptoRow : OpenClaim := { program := "ytcagdmegicijlaagreatdoor", sum := "0bd2f100c1805a56ba51c9c9baf6ae5c02dd1658265b53088f5002c3be868560", func := "confluent/confluentlaw22.ConditionChanges", spec := "conditionChanges", inPlace := ["internal/bytealg.IndexByteString"], unfollowed := true, recurses := true, named := ["strings.asciiSpace", "unicode.White_Space"], apart := false, laid := [("unicode.White_Space", laid_unicode_White_Space), ("strings.asciiSpace", laid_strings_asciiSpace)], narrowed := true }
def ConditionChangesUptoSaid : Prop := conditionChangesUptoRow.holds Tryz.pinned (OpenSpec.upto conditionChangesSpec)

/-- 'confluentlaw22.ConditionQuestions', WHERE WHAT IT READS IS OF BULK AT MOST 1048576: true; the input reads as it did. -/
def conditionQuestionsUptoRow : OpenClaim := { program := "ytcagdmegicijlaagreatdoor", sum := "0bd2f100c1805a56ba51c9c9baf6ae5c02dd1658265b53088f5002c3be868560", func := "confluent/confluentlaw22.ConditionQuestions", spec := "conditionQuestions", inPlace := ["internal/bytealg.IndexByteString"], unfollowed := true, recurses := true, named := ["strings.asciiSpace", "unicode.White_Space"], apart := false, laid := [("unicode.White_Space", laid_unicode_White_Space), ("strings.asciiSpace", laid_strings_asciiSpace)], narrowed := true }
def ConditionQuestionsUptoSaid : Prop := conditionQuestionsUptoRow.holds Tryz.pinned (OpenSpec.upto conditionQuestionsSpec)

/-- 'confluentlaw22.ConditionSystems', WHERE WHAT IT READS IS OF BULK AT MOST 1048576: true; the input reads as it did. -/
def conditionSystemsUptoRow : OpenClaim := { program := "ytcagdmegicijlaagreatdoor", sum := "0bd2f100c1805a56ba51c9c9baf6ae5c02dd1658265b53088f5002c3be868560", func := "confluent/confluentlaw22.ConditionSystems", spec := "conditionSystems", inPlace := ["internal/bytealg.IndexByteString"], unfollowed := true, recurses := true, named := ["strings.asciiSpace", "unicode.White_Space"], apart := false, laid := [("unicode.White_Space", laid_unicode_White_Space), ("strings.asciiSpace", laid_strings_asciiSpace)], narrowed := true }
def ConditionSystemsUptoSaid : Prop := conditionSystemsUptoRow.holds Tryz.pinned (OpenSpec.upto conditionSystemsSpec)

/-- 'confluentlaw22.ConditionMeans', WHERE WHAT IT READS IS OF BULK AT MOST 1048576: true; the input reads as it did. -/
def conditionMeansUptoRow : OpenClaim := { program := "ytcagdmegicijlaagreatdoor", sum := "0bd2f100c1805a56ba51c9c9baf6ae5c02dd1658265b53088f5002c3be868560", func := "confluent/confluentlaw22.ConditionMeans", spec := "conditionMeans", inPlace := ["internal/bytealg.IndexByteString"], unfollowed := true, recurses := true, named := ["strings.asciiSpace", "unicode.White_Space"], apart := false, laid := [("unicode.White_Space", laid_unicode_White_Space), ("strings.asciiSpace", laid_strings_asciiSpace)], narrowed := true }
def ConditionMeansUptoSaid : Prop := conditionMeansUptoRow.holds Tryz.pinned (OpenSpec.upto conditionMeansSpec)

/-- 'confluentlaw22.ConditionOpen', WHERE WHAT IT READS IS OF BULK AT MOST 1048576: true; the input reads as it did. -/
def conditionOpenUptoRow : OpenClaim := { program := "ytcagdmegicijlaagreatdoor", sum := "0bd2f100c1805a56ba51c9c9baf6ae5c02dd1658265b53088f5002c3be868560", func := "confluent/confluentlaw22.ConditionOpen", spec := "conditionOpen", inPlace := ["internal/bytealg.IndexByteString"], unfollowed := true, recurses := true, named := ["strings.asciiSpace", "unicode.White_Space"], apart := false, laid := [("unicode.White_Space", laid_unicode_White_Space), ("strings.asciiSpace", laid_strings_asciiSpace)], narrowed := true }
def ConditionOpenUptoSaid : Prop := conditionOpenUptoRow.holds Tryz.pinned (OpenSpec.upto conditionOpenSpec)

/-- 'confluentlaw22.ConditionRelative', WHERE WHAT IT READS IS OF BULK AT MOST 1048576: true; the input reads as it did. -/
def conditionRelativeUptoRow : OpenClaim := { program := "ytcagdmegicijlaagreatdoor", sum := "0bd2f100c1805a56ba51c9c9baf6ae5c02dd1658265b53088f5002c3be868560", func := "confluent/confluentlaw22.ConditionRelative", spec := "conditionRelative", inPlace := ["internal/bytealg.IndexByteString"], unfollowed := true, recurses := true, named := ["strings.asciiSpace", "unicode.White_Space"], apart := false, laid := [("unicode.White_Space", laid_unicode_White_Space), ("strings.asciiSpace", laid_strings_asciiSpace)], narrowed := true }
def ConditionRelativeUptoSaid : Prop := conditionRelativeUptoRow.holds Tryz.pinned (OpenSpec.upto conditionRelativeSpec)

/-- 'confluentlaw22.ConditionMirror', WHERE WHAT IT READS IS OF BULK AT MOST 1048576: true; the input reads as it did. -/
def conditionMirrorUptoRow : OpenClaim := { program := "ytcagdmegicijlaagreatdoor", sum := "0bd2f100c1805a56ba51c9c9baf6ae5c02dd1658265b53088f5002c3be868560", func := "confluent/confluentlaw22.ConditionMirror", spec := "conditionMirror", inPlace := ["internal/bytealg.IndexByteString"], unfollowed := true, recurses := true, named := ["strings.asciiSpace", "unicode.White_Space"], apart := false, laid := [("unicode.White_Space", laid_unicode_White_Space), ("strings.asciiSpace", laid_strings_asciiSpace)], narrowed := true }
def ConditionMirrorUptoSaid : Prop := conditionMirrorUptoRow.holds Tryz.pinned (OpenSpec.upto conditionMirrorSpec)

end Rows
end Go.Proofs.YtcagdmegicijlaaGreatDoor
