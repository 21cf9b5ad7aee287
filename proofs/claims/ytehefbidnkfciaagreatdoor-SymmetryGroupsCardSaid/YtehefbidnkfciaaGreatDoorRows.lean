/-
  NARROWER THAN 'FOR EVERY INPUT', by the rows' own cells (each row's printed sentence says how): SymmetryOrder: laid · SymmetryGroups: laid · SymmetryKeeps: laid · SymmetryOrbits: laid · SymmetryMoves: laid · SymmetryMaps: laid · SymmetryTwice: laid.
  DERIVED. THE GIVEN ROWS OF THIS SEAT. 7 by the template 'for every input the law returns true; each argument reads behind the call as it read before'; 0 by the template 'total and deterministic' (their statements: YtehefbidnkfciaaGreatDoorTotals.lean).
  GIVEN WITH THE SEED: the statements are not yours to turn. If you find one false, say at which input.
  Laid BY PROGRAM, IN A SANDBOX (cutbox-rows.mjs): the forced cells as the released guide's own fill.sh prints them over the translation 20033b0c035ca154… (all of the seat's roots in one cut). By AI agents, Wed Nov 11 2026. No macro, syntax, notation, axiom, sorry.
-/
import Derived.Test.YtehefbidnkfciaaGreatDoorChecked
import GoSem.Claim
import GoSem.ClaimJoined
import GoSem.ClaimMapViews
import Derived.JoinedTies
import Derived.KernelRfl
namespace Go.Proofs.YtehefbidnkfciaaGreatDoor
/- THE CELL 'sum', in the pinned program and in every row, IS THE sha256 OF THE DUMP (.gsa) THAT YtehefbidnkfciaaGreatDoorProg.lean LOADS. Nothing in Lean hashes anything: it is a label: what it is worth is what the hold of that sum in a sandbox is worth. -/
noncomputable def Tryz.pinned : Pinned := { name := "ytehefbidnkfciaagreatdoor", sum := "20033b0c035ca1541de4a4d127fbc82ed7d12a7e1bdf7b2ca8e0b67cc7ea5a9e", checked := Tryz.checked }
namespace Rows
def none {H : Type} : Left H := { results := [], args := [] }

/- WHAT THE LISTED PACKAGE-LEVEL VARIABLES READ AS WHEN THE CALL BEGINS. Each datum BY PROGRAM (the guide's laid-datum.mjs) off the statement by which the dump's own 'gosem.cut.vars' lays the variable. In a bare row this is a premise. The card (YtehefbidnkfciaaGreatDoorCards.lean) ties it to the program's text. -/
def laid_unicode_White_Space {H : Type} : DataW H := .ptr (.agg [.slice [.agg [.lit (.int .u16 9), .lit (.int .u16 13), .lit (.int .u16 1)], .agg [.lit (.int .u16 32), .lit (.int .u16 133), .lit (.int .u16 101)], .agg [.lit (.int .u16 160), .lit (.int .u16 5760), .lit (.int .u16 5600)], .agg [.lit (.int .u16 8192), .lit (.int .u16 8202), .lit (.int .u16 1)], .agg [.lit (.int .u16 8232), .lit (.int .u16 8233), .lit (.int .u16 1)], .agg [.lit (.int .u16 8239), .lit (.int .u16 8287), .lit (.int .u16 48)], .agg [.lit (.int .u16 12288), .lit (.int .u16 12288), .lit (.int .u16 1)]] [], .nil, .lit (.int .i64 2)])
def laid_strings_asciiSpace {H : Type} : DataW H := .agg [.lit (.int .u8 0), .lit (.int .u8 0), .lit (.int .u8 0), .lit (.int .u8 0), .lit (.int .u8 0), .lit (.int .u8 0), .lit (.int .u8 0), .lit (.int .u8 0), .lit (.int .u8 0), .lit (.int .u8 1), .lit (.int .u8 1), .lit (.int .u8 1), .lit (.int .u8 1), .lit (.int .u8 1), .lit (.int .u8 0), .lit (.int .u8 0), .lit (.int .u8 0), .lit (.int .u8 0), .lit (.int .u8 0), .lit (.int .u8 0), .lit (.int .u8 0), .lit (.int .u8 0), .lit (.int .u8 0), .lit (.int .u8 0), .lit (.int .u8 0), .lit (.int .u8 0), .lit (.int .u8 0), .lit (.int .u8 0), .lit (.int .u8 0), .lit (.int .u8 0), .lit (.int .u8 0), .lit (.int .u8 0), .lit (.int .u8 1), .lit (.int .u8 0), .lit (.int .u8 0), .lit (.int .u8 0), .lit (.int .u8 0), .lit (.int .u8 0), .lit (.int .u8 0), .lit (.int .u8 0), .lit (.int .u8 0), .lit (.int .u8 0), .lit (.int .u8 0), .lit (.int .u8 0), .lit (.int .u8 0), .lit (.int .u8 0), .lit (.int .u8 0), .lit (.int .u8 0), .lit (.int .u8 0), .lit (.int .u8 0), .lit (.int .u8 0), .lit (.int .u8 0), .lit (.int .u8 0), .lit (.int .u8 0), .lit (.int .u8 0), .lit (.int .u8 0), .lit (.int .u8 0), .lit (.int .u8 0), .lit (.int .u8 0), .lit (.int .u8 0), .lit (.int .u8 0), .lit (.int .u8 0), .lit (.int .u8 0), .lit (.int .u8 0), .lit (.int .u8 0), .lit (.int .u8 0), .lit (.int .u8 0), .lit (.int .u8 0), .lit (.int .u8 0), .lit (.int .u8 0), .lit (.int .u8 0), .lit (.int .u8 0), .lit (.int .u8 0), .lit (.int .u8 0), .lit (.int .u8 0), .lit (.int .u8 0), .lit (.int .u8 0), .lit (.int .u8 0), .lit (.int .u8 0), .lit (.int .u8 0), .lit (.int .u8 0), .lit (.int .u8 0), .lit (.int .u8 0), .lit (.int .u8 0), .lit (.int .u8 0), .lit (.int .u8 0), .lit (.int .u8 0), .lit (.int .u8 0), .lit (.int .u8 0), .lit (.int .u8 0), .lit (.int .u8 0), .lit (.int .u8 0), .lit (.int .u8 0), .lit (.int .u8 0), .lit (.int .u8 0), .lit (.int .u8 0), .lit (.int .u8 0), .lit (.int .u8 0), .lit (.int .u8 0), .lit (.int .u8 0), .lit (.int .u8 0), .lit (.int .u8 0), .lit (.int .u8 0), .lit (.int .u8 0), .lit (.int .u8 0), .lit (.int .u8 0), .lit (.int .u8 0), .lit (.int .u8 0), .lit (.int .u8 0), .lit (.int .u8 0), .lit (.int .u8 0), .lit (.int .u8 0), .lit (.int .u8 0), .lit (.int .u8 0), .lit (.int .u8 0), .lit (.int .u8 0), .lit (.int .u8 0), .lit (.int .u8 0), .lit (.int .u8 0), .lit (.int .u8 0), .lit (.int .u8 0), .lit (.int .u8 0), .lit (.int .u8 0), .lit (.int .u8 0), .lit (.int .u8 0), .lit (.int .u8 0), .lit (.int .u8 0), .lit (.int .u8 0), .lit (.int .u8 0), .lit (.int .u8 0), .lit (.int .u8 0), .lit (.int .u8 0), .lit (.int .u8 0), .lit (.int .u8 0), .lit (.int .u8 0), .lit (.int .u8 0), .lit (.int .u8 0), .lit (.int .u8 0), .lit (.int .u8 0), .lit (.int .u8 0), .lit (.int .u8 0), .lit (.int .u8 0), .lit (.int .u8 0), .lit (.int .u8 0), .lit (.int .u8 0), .lit (.int .u8 0), .lit (.int .u8 0), .lit (.int .u8 0), .lit (.int .u8 0), .lit (.int .u8 0), .lit (.int .u8 0), .lit (.int .u8 0), .lit (.int .u8 0), .lit (.int .u8 0), .lit (.int .u8 0), .lit (.int .u8 0), .lit (.int .u8 0), .lit (.int .u8 0), .lit (.int .u8 0), .lit (.int .u8 0), .lit (.int .u8 0), .lit (.int .u8 0), .lit (.int .u8 0), .lit (.int .u8 0), .lit (.int .u8 0), .lit (.int .u8 0), .lit (.int .u8 0), .lit (.int .u8 0), .lit (.int .u8 0), .lit (.int .u8 0), .lit (.int .u8 0), .lit (.int .u8 0), .lit (.int .u8 0), .lit (.int .u8 0), .lit (.int .u8 0), .lit (.int .u8 0), .lit (.int .u8 0), .lit (.int .u8 0), .lit (.int .u8 0), .lit (.int .u8 0), .lit (.int .u8 0), .lit (.int .u8 0), .lit (.int .u8 0), .lit (.int .u8 0), .lit (.int .u8 0), .lit (.int .u8 0), .lit (.int .u8 0), .lit (.int .u8 0), .lit (.int .u8 0), .lit (.int .u8 0), .lit (.int .u8 0), .lit (.int .u8 0), .lit (.int .u8 0), .lit (.int .u8 0), .lit (.int .u8 0), .lit (.int .u8 0), .lit (.int .u8 0), .lit (.int .u8 0), .lit (.int .u8 0), .lit (.int .u8 0), .lit (.int .u8 0), .lit (.int .u8 0), .lit (.int .u8 0), .lit (.int .u8 0), .lit (.int .u8 0), .lit (.int .u8 0), .lit (.int .u8 0), .lit (.int .u8 0), .lit (.int .u8 0), .lit (.int .u8 0), .lit (.int .u8 0), .lit (.int .u8 0), .lit (.int .u8 0), .lit (.int .u8 0), .lit (.int .u8 0), .lit (.int .u8 0), .lit (.int .u8 0), .lit (.int .u8 0), .lit (.int .u8 0), .lit (.int .u8 0), .lit (.int .u8 0), .lit (.int .u8 0), .lit (.int .u8 0), .lit (.int .u8 0), .lit (.int .u8 0), .lit (.int .u8 0), .lit (.int .u8 0), .lit (.int .u8 0), .lit (.int .u8 0), .lit (.int .u8 0), .lit (.int .u8 0), .lit (.int .u8 0), .lit (.int .u8 0), .lit (.int .u8 0), .lit (.int .u8 0), .lit (.int .u8 0), .lit (.int .u8 0), .lit (.int .u8 0), .lit (.int .u8 0), .lit (.int .u8 0), .lit (.int .u8 0), .lit (.int .u8 0), .lit (.int .u8 0), .lit (.int .u8 0), .lit (.int .u8 0), .lit (.int .u8 0), .lit (.int .u8 0), .lit (.int .u8 0), .lit (.int .u8 0), .lit (.int .u8 0), .lit (.int .u8 0), .lit (.int .u8 0), .lit (.int .u8 0), .lit (.int .u8 0), .lit (.int .u8 0), .lit (.int .u8 0)]

/-- 'confluentlaw16.SymmetryOrder': WHATEVER THE INPUT: true; the input reads as it did. -/
def symmetryOrderSpec : ChangeSpec := { name := "symmetryOrder", fn := fun _ => fun
  | [d1, d2, d3] => { results := [.lit (.bool true)], args := [d1, d2, d3] }
  | _ => none }
def symmetryOrderRow : OpenClaim := { program := "ytehefbidnkfciaagreatdoor", sum := "20033b0c035ca1541de4a4d127fbc82ed7d12a7e1bdf7b2ca8e0b67cc7ea5a9e", func := "confluent/confluentlaw16.SymmetryOrder", spec := "symmetryOrder", inPlace := ["internal/bytealg.IndexByteString"], unfollowed := true, recurses := true, named := ["strings.asciiSpace", "unicode.White_Space"], plainKeys := false, apart := false, laid := [("unicode.White_Space", laid_unicode_White_Space), ("strings.asciiSpace", laid_strings_asciiSpace)] }
def SymmetryOrderSaid : Prop := symmetryOrderRow.holds Tryz.pinned (OpenSpec.ofChange symmetryOrderSpec)

/-- ITS FALSE NEIGHBOUR: 'it returns false'. Refute it at one input. -/
def symmetryOrderWrong : ChangeSpec := { name := "symmetryOrder", fn := fun _ => fun
  | [d1, d2, d3] => { results := [.lit (.bool false)], args := [d1, d2, d3] }
  | _ => none }
def SymmetryOrderWrongFalsely : Prop := symmetryOrderRow.holds Tryz.pinned (OpenSpec.ofChange symmetryOrderWrong)

/-- 'confluentlaw16.SymmetryGroups': WHATEVER THE INPUT: true; the input reads as it did. -/
def symmetryGroupsSpec : ChangeSpec := { name := "symmetryGroups", fn := fun _ => fun
  | [d1, d2, d3] => { results := [.lit (.bool true)], args := [d1, d2, d3] }
  | _ => none }
def symmetryGroupsRow : OpenClaim := { program := "ytehefbidnkfciaagreatdoor", sum := "20033b0c035ca1541de4a4d127fbc82ed7d12a7e1bdf7b2ca8e0b67cc7ea5a9e", func := "confluent/confluentlaw16.SymmetryGroups", spec := "symmetryGroups", inPlace := ["internal/bytealg.IndexByteString"], unfollowed := true, recurses := true, named := ["strings.asciiSpace", "unicode.White_Space"], plainKeys := false, apart := false, laid := [("unicode.White_Space", laid_unicode_White_Space), ("strings.asciiSpace", laid_strings_asciiSpace)] }
def SymmetryGroupsSaid : Prop := symmetryGroupsRow.holds Tryz.pinned (OpenSpec.ofChange symmetryGroupsSpec)

/-- ITS FALSE NEIGHBOUR: 'it returns false'. Refute it at one input. -/
def symmetryGroupsWrong : ChangeSpec := { name := "symmetryGroups", fn := fun _ => fun
  | [d1, d2, d3] => { results := [.lit (.bool false)], args := [d1, d2, d3] }
  | _ => none }
def SymmetryGroupsWrongFalsely : Prop := symmetryGroupsRow.holds Tryz.pinned (OpenSpec.ofChange symmetryGroupsWrong)

/-- 'confluentlaw16.SymmetryKeeps': WHATEVER THE INPUT: true; the input reads as it did. -/
def symmetryKeepsSpec : ChangeSpec := { name := "symmetryKeeps", fn := fun _ => fun
  | [d1, d2, d3, d4] => { results := [.lit (.bool true)], args := [d1, d2, d3, d4] }
  | _ => none }
def symmetryKeepsRow : OpenClaim := { program := "ytehefbidnkfciaagreatdoor", sum := "20033b0c035ca1541de4a4d127fbc82ed7d12a7e1bdf7b2ca8e0b67cc7ea5a9e", func := "confluent/confluentlaw16.SymmetryKeeps", spec := "symmetryKeeps", inPlace := ["internal/bytealg.IndexByteString"], unfollowed := true, recurses := true, named := ["strings.asciiSpace", "unicode.White_Space"], plainKeys := false, apart := false, laid := [("unicode.White_Space", laid_unicode_White_Space), ("strings.asciiSpace", laid_strings_asciiSpace)] }
def SymmetryKeepsSaid : Prop := symmetryKeepsRow.holds Tryz.pinned (OpenSpec.ofChange symmetryKeepsSpec)

/-- ITS FALSE NEIGHBOUR: 'it returns false'. Refute it at one input. -/
def symmetryKeepsWrong : ChangeSpec := { name := "symmetryKeeps", fn := fun _ => fun
  | [d1, d2, d3, d4] => { results := [.lit (.bool false)], args := [d1, d2, d3, d4] }
  | _ => none }
def SymmetryKeepsWrongFalsely : Prop := symmetryKeepsRow.holds Tryz.pinned (OpenSpec.ofChange symmetryKeepsWrong)

/-- 'confluentlaw16.SymmetryOrbits': WHATEVER THE INPUT: true; the input reads as it did. -/
def symmetryOrbitsSpec : ChangeSpec := { name := "symmetryOrbits", fn := fun _ => fun
  | [d1, d2] => { results := [.lit (.bool true)], args := [d1, d2] }
  | _ => none }
def symmetryOrbitsRow : OpenClaim := { program := "ytehefbidnkfciaagreatdoor", sum := "20033b0c035ca1541de4a4d127fbc82ed7d12a7e1bdf7b2ca8e0b67cc7ea5a9e", func := "confluent/confluentlaw16.SymmetryOrbits", spec := "symmetryOrbits", inPlace := ["internal/bytealg.IndexByteString"], unfollowed := true, recurses := true, named := ["strings.asciiSpace", "unicode.White_Space"], plainKeys := false, apart := false, laid := [("unicode.White_Space", laid_unicode_White_Space), ("strings.asciiSpace", laid_strings_asciiSpace)] }
def SymmetryOrbitsSaid : Prop := symmetryOrbitsRow.holds Tryz.pinned (OpenSpec.ofChange symmetryOrbitsSpec)

/-- ITS FALSE NEIGHBOUR: 'it returns false'. Refute it at one input. -/
def symmetryOrbitsWrong : ChangeSpec := { name := "symmetryOrbits", fn := fun _ => fun
  | [d1, d2] => { results := [.lit (.bool false)], args := [d1, d2] }
  | _ => none }
def SymmetryOrbitsWrongFalsely : Prop := symmetryOrbitsRow.holds Tryz.pinned (OpenSpec.ofChange symmetryOrbitsWrong)

/-- 'confluentlaw16.SymmetryMoves': WHATEVER THE INPUT: true; the input reads as it did. -/
def symmetryMovesSpec : ChangeSpec := { name := "symmetryMoves", fn := fun _ => fun
  | [d1, d2, d3, d4, d5] => { results := [.lit (.bool true)], args := [d1, d2, d3, d4, d5] }
  | _ => none }
def symmetryMovesRow : OpenClaim := { program := "ytehefbidnkfciaagreatdoor", sum := "20033b0c035ca1541de4a4d127fbc82ed7d12a7e1bdf7b2ca8e0b67cc7ea5a9e", func := "confluent/confluentlaw16.SymmetryMoves", spec := "symmetryMoves", inPlace := ["internal/bytealg.IndexByteString"], unfollowed := true, recurses := true, named := ["strings.asciiSpace", "unicode.White_Space"], plainKeys := false, apart := false, laid := [("unicode.White_Space", laid_unicode_White_Space), ("strings.asciiSpace", laid_strings_asciiSpace)] }
def SymmetryMovesSaid : Prop := symmetryMovesRow.holds Tryz.pinned (OpenSpec.ofChange symmetryMovesSpec)

/-- ITS FALSE NEIGHBOUR: 'it returns false'. Refute it at one input. -/
def symmetryMovesWrong : ChangeSpec := { name := "symmetryMoves", fn := fun _ => fun
  | [d1, d2, d3, d4, d5] => { results := [.lit (.bool false)], args := [d1, d2, d3, d4, d5] }
  | _ => none }
def SymmetryMovesWrongFalsely : Prop := symmetryMovesRow.holds Tryz.pinned (OpenSpec.ofChange symmetryMovesWrong)

/-- 'confluentlaw16.SymmetryMaps': WHATEVER THE INPUT: true; the input reads as it did. -/
def symmetryMapsSpec : ChangeSpec := { name := "symmetryMaps", fn := fun _ => fun
  | [d1, d2, d3, d4, d5] => { results := [.lit (.bool true)], args := [d1, d2, d3, d4, d5] }
  | _ => none }
def symmetryMapsRow : OpenClaim := { program := "ytehefbidnkfciaagreatdoor", sum := "20033b0c035ca1541de4a4d127fbc82ed7d12a7e1bdf7b2ca8e0b67cc7ea5a9e", func := "confluent/confluentlaw16.SymmetryMaps", spec := "symmetryMaps", inPlace := ["internal/bytealg.IndexByteString"], unfollowed := true, recurses := true, named := ["strings.asciiSpace", "unicode.White_Space"], plainKeys := false, apart := false, laid := [("unicode.White_Space", laid_unicode_White_Space), ("strings.asciiSpace", laid_strings_asciiSpace)] }
def SymmetryMapsSaid : Prop := symmetryMapsRow.holds Tryz.pinned (OpenSpec.ofChange symmetryMapsSpec)

/-- ITS FALSE NEIGHBOUR: 'it returns false'. Refute it at one input. -/
def symmetryMapsWrong : ChangeSpec := { name := "symmetryMaps", fn := fun _ => fun
  | [d1, d2, d3, d4, d5] => { results := [.lit (.bool false)], args := [d1, d2, d3, d4, d5] }
  | _ => none }
def SymmetryMapsWrongFalsely : Prop := symmetryMapsRow.holds Tryz.pinned (OpenSpec.ofChange symmetryMapsWrong)

/-- 'confluentlaw16.SymmetryTwice': WHATEVER THE INPUT: true; the input reads as it did. -/
def symmetryTwiceSpec : ChangeSpec := { name := "symmetryTwice", fn := fun _ => fun
  | [d1, d2, d3, d4, d5, d6, d7] => { results := [.lit (.bool true)], args := [d1, d2, d3, d4, d5, d6, d7] }
  | _ => none }
def symmetryTwiceRow : OpenClaim := { program := "ytehefbidnkfciaagreatdoor", sum := "20033b0c035ca1541de4a4d127fbc82ed7d12a7e1bdf7b2ca8e0b67cc7ea5a9e", func := "confluent/confluentlaw16.SymmetryTwice", spec := "symmetryTwice", inPlace := ["internal/bytealg.IndexByteString"], unfollowed := true, recurses := true, named := ["strings.asciiSpace", "unicode.White_Space"], plainKeys := false, apart := false, laid := [("unicode.White_Space", laid_unicode_White_Space), ("strings.asciiSpace", laid_strings_asciiSpace)] }
def SymmetryTwiceSaid : Prop := symmetryTwiceRow.holds Tryz.pinned (OpenSpec.ofChange symmetryTwiceSpec)

/-- ITS FALSE NEIGHBOUR: 'it returns false'. Refute it at one input. -/
def symmetryTwiceWrong : ChangeSpec := { name := "symmetryTwice", fn := fun _ => fun
  | [d1, d2, d3, d4, d5, d6, d7] => { results := [.lit (.bool false)], args := [d1, d2, d3, d4, d5, d6, d7] }
  | _ => none }
def SymmetryTwiceWrongFalsely : Prop := symmetryTwiceRow.holds Tryz.pinned (OpenSpec.ofChange symmetryTwiceWrong)

/- THE SECOND FORM. 'bulk': how many values and letters a reading holds, each counted each time it is reached (what is shared counts as often as it is met; a slice's spare places count too). A statement '..UptoSaid' is the law's where the arguments, and the package variables that the reading takes, are together of bulk at most 1048576: NARROWER than '..Said'. Prove '..Said' where nothing that the law and all that it calls make is longer than what came in: it says more and counts as full. Else prove '..UptoSaid'. A law counts once. -/
mutual
def uptoBulk {H : Type} : DataW H → Nat
  | .lit (.string bytes) => bytes.length + 1
  | .lit _ => 1
  | .nil => 1
  | .ptr d => uptoBulk d + 1
  | .slice elems spare => uptoBulkAll elems + uptoBulkAll spare + 1
  | .agg parts => uptoBulkAll parts + 1
  | .iface _ d => uptoBulk d + 1
  | .map entries => uptoBulkEntries entries + 1
  | .held _ => 1
def uptoBulkAll {H : Type} : List (DataW H) → Nat
  | [] => 0
  | d :: r => uptoBulk d + uptoBulkAll r
def uptoBulkEntries {H : Type} : List (Lit × DataW H) → Nat
  | [] => 0
  | x :: r => uptoBulkEntry x + uptoBulkEntries r
def uptoBulkEntry {H : Type} : Lit × DataW H → Nat
  | (.string bytes, d) => bytes.length + uptoBulk d + 1
  | (_, d) => uptoBulk d + 1
 end
def uptoSmall : (H : Type) → List (DataW H) → Bool := fun _ ds => decide (uptoBulkAll ds ≤ 1048576)
def OpenSpec.upto (s : _root_.Go.ChangeSpec) : _root_.Go.OpenSpec := { _root_.Go.OpenSpec.ofChange s with cond := some uptoSmall }

/-- 'confluentlaw16.SymmetryOrder', WHERE WHAT IT READS IS OF BULK AT MOST 1048576: true; the input reads as it did. -/
def symmetryOrderUptoRow : OpenClaim := { program := "ytehefbidnkfciaagreatdoor", sum := "20033b0c035ca1541de4a4d127fbc82ed7d12a7e1bdf7b2ca8e0b67cc7ea5a9e", func := "confluent/confluentlaw16.SymmetryOrder", spec := "symmetryOrder", inPlace := ["internal/bytealg.IndexByteString"], unfollowed := true, recurses := true, named := ["strings.asciiSpace", "unicode.White_Space"], plainKeys := false, apart := false, laid := [("unicode.White_Space", laid_unicode_White_Space), ("strings.asciiSpace", laid_strings_asciiSpace)], narrowed := true }
def SymmetryOrderUptoSaid : Prop := symmetryOrderUptoRow.holds Tryz.pinned (OpenSpec.upto symmetryOrderSpec)

/-- 'confluentlaw16.SymmetryGroups', WHERE WHAT IT READS IS OF BULK AT MOST 1048576: true; the input reads as it did. -/
def symmetryGroupsUptoRow : OpenClaim := { program := "ytehefbidnkfciaagreatdoor", sum := "20033b0c035ca1541de4a4d127fbc82ed7d12a7e1bdf7b2ca8e0b67cc7ea5a9e", func := "confluent/confluentlaw16.SymmetryGroups", spec := "symmetryGroups", inPlace := ["internal/bytealg.IndexByteString"], unfollowed := true, recurses := true, named := ["strings.asciiSpace", "unicode.White_Space"], plainKeys := false, apart := false, laid := [("unicode.White_Space", laid_unicode_White_Space), ("strings.asciiSpace", laid_strings_asciiSpace)], narrowed := true }
def SymmetryGroupsUptoSaid : Prop := symmetryGroupsUptoRow.holds Tryz.pinned (OpenSpec.upto symmetryGroupsSpec)

/-- 'confluentlaw16.SymmetryKeeps', WHERE WHAT IT READS IS OF BULK AT MOST 1048576: true; the input reads as it did. -/
def symmetryKeepsUptoRow : OpenClaim := { program := "ytehefbidnkfciaagreatdoor", sum := "20033b0c035ca1541de4a4d127fbc82ed7d12a7e1bdf7b2ca8e0b67cc7ea5a9e", func := "confluent/confluentlaw16.SymmetryKeeps", spec := "symmetryKeeps", inPlace := ["internal/bytealg.IndexByteString"], unfollowed := true, recurses := true, named := ["strings.asciiSpace", "unicode.White_Space"], plainKeys := false, apart := false, laid := [("unicode.White_Space", laid_unicode_White_Space), ("strings.asciiSpace", laid_strings_asciiSpace)], narrowed := true }
def SymmetryKeepsUptoSaid : Prop := symmetryKeepsUptoRow.holds Tryz.pinned (OpenSpec.upto symmetryKeepsSpec)

/-- 'confluentlaw16.SymmetryOrbits', WHERE WHAT IT READS IS OF BULK AT MOST 1048576: true; the input reads as it did. -/
def symmetryOrbitsUptoRow : OpenClaim := { program := "ytehefbidnkfciaagreatdoor", sum := "20033b0c035ca1541de4a4d127fbc82ed7d12a7e1bdf7b2ca8e0b67cc7ea5a9e", func := "confluent/confluentlaw16.SymmetryOrbits", spec := "symmetryOrbits", inPlace := ["internal/bytealg.IndexByteString"], unfollowed := true, recurses := true, named := ["strings.asciiSpace", "unicode.White_Space"], plainKeys := false, apart := false, laid := [("unicode.White_Space", laid_unicode_White_Space), ("strings.asciiSpace", laid_strings_asciiSpace)], narrowed := true }
def SymmetryOrbitsUptoSaid : Prop := symmetryOrbitsUptoRow.holds Tryz.pinned (OpenSpec.upto symmetryOrbitsSpec)

/-- 'confluentlaw16.SymmetryMoves', WHERE WHAT IT READS IS OF BULK AT MOST 1048576: true; the input reads as it did. -/
def symmetryMovesUptoRow : OpenClaim := { program := "ytehefbidnkfciaagreatdoor", sum := "20033b0c035ca1541de4a4d127fbc82ed7d12a7e1bdf7b2ca8e0b67cc7ea5a9e", func := "confluent/confluentlaw16.SymmetryMoves", spec := "symmetryMoves", inPlace := ["internal/bytealg.IndexByteString"], unfollowed := true, recurses := true, named := ["strings.asciiSpace", "unicode.White_Space"], plainKeys := false, apart := false, laid := [("unicode.White_Space", laid_unicode_White_Space), ("strings.asciiSpace", laid_strings_asciiSpace)], narrowed := true }
def SymmetryMovesUptoSaid : Prop := symmetryMovesUptoRow.holds Tryz.pinned (OpenSpec.upto symmetryMovesSpec)

/-- 'confluentlaw16.SymmetryMaps', WHERE WHAT IT READS IS OF BULK AT MOST 1048576: true; the input reads as it did. -/
def symmetryMapsUptoRow : OpenClaim := { program := "ytehefbidnkfciaagreatdoor", sum := "20033b0c035ca1541de4a4d127fbc82ed7d12a7e1bdf7b2ca8e0b67cc7ea5a9e", func := "confluent/confluentlaw16.SymmetryMaps", spec := "symmetryMaps", inPlace := ["internal/bytealg.IndexByteString"], unfollowed := true, recurses := true, named := ["strings.asciiSpace", "unicode.White_Space"], plainKeys := false, apart := false, laid := [("unicode.White_Space", laid_unicode_White_Space), ("strings.asciiSpace", laid_strings_asciiSpace)], narrowed := true }
def SymmetryMapsUptoSaid : Prop := symmetryMapsUptoRow.holds Tryz.pinned (OpenSpec.upto symmetryMapsSpec)

/-- 'confluentlaw16.SymmetryTwice', WHERE WHAT IT READS IS OF BULK AT MOST 1048576: true; the input reads as it did. -/
def symmetryTwiceUptoRow : OpenClaim := { program := "ytehefbidnkfciaagreatdoor", sum := "20033b0c035ca1541de4a4d127fbc82ed7d12a7e1bdf7b2ca8e0b67cc7ea5a9e", func := "confluent/confluentlaw16.SymmetryTwice", spec := "symmetryTwice", inPlace := ["internal/bytealg.IndexByteString"], unfollowed := true, recurses := true, named := ["strings.asciiSpace", "unicode.White_Space"], plainKeys := false, apart := false, laid := [("unicode.White_Space", laid_unicode_White_Space), ("strings.asciiSpace", laid_strings_asciiSpace)], narrowed := true }
def SymmetryTwiceUptoSaid : Prop := symmetryTwiceUptoRow.holds Tryz.pinned (OpenSpec.upto symmetryTwiceSpec)

end Rows
end Go.Proofs.YtehefbidnkfciaaGreatDoor
