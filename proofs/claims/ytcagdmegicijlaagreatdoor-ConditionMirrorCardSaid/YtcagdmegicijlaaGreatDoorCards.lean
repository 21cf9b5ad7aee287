/-
  DERIVED. GIVEN WITH THE SEED: THE CARDS: each row of YtcagdmegicijlaaGreatDoorRows.lean that lists a variable, with what it lists TIED to the program's text (the seventh form; the later family's looks); each row that meets fmt, with fmt's text TOLD by the authors' own Lean function (tested against real Go, not proved from fmt's source: count such statements apart). THE CARD IS WHAT COUNTS. Prove the row's statement (the work); the ties are given (YtcagdmegicijlaaGreatDoorTie.lean); close each card by the builder's one call (the guide's Derived/Test/ToyasCard.lean, 'card_holds'). Laid BY PROGRAM, IN A SANDBOX (cutbox-door.mjs). By AI agents, Wed Nov 11 2026. No macro, syntax, notation, axiom, sorry.
-/
import Derived.Test.YtcagdmegicijlaaGreatDoorRows
import GoSem.ClaimSeven
namespace Go.Proofs.YtcagdmegicijlaaGreatDoor
namespace Rows

/-- THE TIED CARD OF 'confluentlaw22.ConditionChanges'. -/
def conditionChangesCard : Claim7 := { stood := { row := conditionChangesRow, standIns := [], harness := (true, "56cef261923c9fb4aa0e7bb7e84cc52ffc0cc7285f01ac50175ff0360cd3a0d2"), looks := false }, kinds := [], alts := [], laidByText := true, laidKinds := [.listed, .data], laidTests := true, laidLooks := .later }
def ConditionChangesCardSaid : Prop := Claim7.holds Tryz.pinned (.plain (OpenSpec.ofChange conditionChangesSpec)) conditionChangesCard

/-- THE TIED CARD OF 'confluentlaw22.ConditionQuestions'. -/
def conditionQuestionsCard : Claim7 := { stood := { row := conditionQuestionsRow, standIns := [], harness := (true, "56cef261923c9fb4aa0e7bb7e84cc52ffc0cc7285f01ac50175ff0360cd3a0d2"), looks := false }, kinds := [], alts := [], laidByText := true, laidKinds := [.listed, .data], laidTests := true, laidLooks := .later }
def ConditionQuestionsCardSaid : Prop := Claim7.holds Tryz.pinned (.plain (OpenSpec.ofChange conditionQuestionsSpec)) conditionQuestionsCard

/-- THE TIED CARD OF 'confluentlaw22.ConditionSystems'. -/
def conditionSystemsCard : Claim7 := { stood := { row := conditionSystemsRow, standIns := [], harness := (true, "56cef261923c9fb4aa0e7bb7e84cc52ffc0cc7285f01ac50175ff0360cd3a0d2"), looks := false }, kinds := [], alts := [], laidByText := true, laidKinds := [.listed, .data], laidTests := true, laidLooks := .later }
def ConditionSystemsCardSaid : Prop := Claim7.holds Tryz.pinned (.plain (OpenSpec.ofChange conditionSystemsSpec)) conditionSystemsCard

/-- THE TIED CARD OF 'confluentlaw22.ConditionMeans'. -/
def conditionMeansCard : Claim7 := { stood := { row := conditionMeansRow, standIns := [], harness := (true, "56cef261923c9fb4aa0e7bb7e84cc52ffc0cc7285f01ac50175ff0360cd3a0d2"), looks := false }, kinds := [], alts := [], laidByText := true, laidKinds := [.listed, .data], laidTests := true, laidLooks := .later }
def ConditionMeansCardSaid : Prop := Claim7.holds Tryz.pinned (.plain (OpenSpec.ofChange conditionMeansSpec)) conditionMeansCard

/-- THE TIED CARD OF 'confluentlaw22.ConditionOpen'. -/
def conditionOpenCard : Claim7 := { stood := { row := conditionOpenRow, standIns := [], harness := (true, "56cef261923c9fb4aa0e7bb7e84cc52ffc0cc7285f01ac50175ff0360cd3a0d2"), looks := false }, kinds := [], alts := [], laidByText := true, laidKinds := [.listed, .data], laidTests := true, laidLooks := .later }
def ConditionOpenCardSaid : Prop := Claim7.holds Tryz.pinned (.plain (OpenSpec.ofChange conditionOpenSpec)) conditionOpenCard

/-- THE TIED CARD OF 'confluentlaw22.ConditionRelative'. -/
def conditionRelativeCard : Claim7 := { stood := { row := conditionRelativeRow, standIns := [], harness := (true, "56cef261923c9fb4aa0e7bb7e84cc52ffc0cc7285f01ac50175ff0360cd3a0d2"), looks := false }, kinds := [], alts := [], laidByText := true, laidKinds := [.listed, .data], laidTests := true, laidLooks := .later }
def ConditionRelativeCardSaid : Prop := Claim7.holds Tryz.pinned (.plain (OpenSpec.ofChange conditionRelativeSpec)) conditionRelativeCard

/-- THE TIED CARD OF 'confluentlaw22.ConditionMirror'. -/
def conditionMirrorCard : Claim7 := { stood := { row := conditionMirrorRow, standIns := [], harness := (true, "56cef261923c9fb4aa0e7bb7e84cc52ffc0cc7285f01ac50175ff0360cd3a0d2"), looks := false }, kinds := [], alts := [], laidByText := true, laidKinds := [.listed, .data], laidTests := true, laidLooks := .later }
def ConditionMirrorCardSaid : Prop := Claim7.holds Tryz.pinned (.plain (OpenSpec.ofChange conditionMirrorSpec)) conditionMirrorCard

/-- THE SECOND FORM's CARD OF 'confluentlaw22.ConditionChanges'. -/
def conditionChangesUptoCard : Claim7 := { stood := { row := conditionChangesUptoRow, standIns := [], harness := (true, "56cef261923c9fb4aa0e7bb7e84cc52ffc0cc7285f01ac50175ff0360cd3a0d2"), looks := false }, kinds := [], alts := [], laidByText := true, laidKinds := [.listed, .data], laidTests := true, laidLooks := .later }
def ConditionChangesUptoCardSaid : Prop := Claim7.holds Tryz.pinned (.plain (OpenSpec.upto conditionChangesSpec)) conditionChangesUptoCard

/-- THE SECOND FORM's CARD OF 'confluentlaw22.ConditionQuestions'. -/
def conditionQuestionsUptoCard : Claim7 := { stood := { row := conditionQuestionsUptoRow, standIns := [], harness := (true, "56cef261923c9fb4aa0e7bb7e84cc52ffc0cc7285f01ac50175ff0360cd3a0d2"), looks := false }, kinds := [], alts := [], laidByText := true, laidKinds := [.listed, .data], laidTests := true, laidLooks := .later }
def ConditionQuestionsUptoCardSaid : Prop := Claim7.holds Tryz.pinned (.plain (OpenSpec.upto conditionQuestionsSpec)) conditionQuestionsUptoCard

/-- THE SECOND FORM's CARD OF 'confluentlaw22.ConditionSystems'. -/
def conditionSystemsUptoCard : Claim7 := { stood := { row := conditionSystemsUptoRow, standIns := [], harness := (true, "56cef261923c9fb4aa0e7bb7e84cc52ffc0cc7285f01ac50175ff0360cd3a0d2"), looks := false }, kinds := [], alts := [], laidByText := true, laidKinds := [.listed, .data], laidTests := true, laidLooks := .later }
def ConditionSystemsUptoCardSaid : Prop := Claim7.holds Tryz.pinned (.plain (OpenSpec.upto conditionSystemsSpec)) conditionSystemsUptoCard

/-- THE SECOND FORM's CARD OF 'confluentlaw22.ConditionMeans'. -/
def conditionMeansUptoCard : Claim7 := { stood := { row := conditionMeansUptoRow, standIns := [], harness := (true, "56cef261923c9fb4aa0e7bb7e84cc52ffc0cc7285f01ac50175ff0360cd3a0d2"), looks := false }, kinds := [], alts := [], laidByText := true, laidKinds := [.listed, .data], laidTests := true, laidLooks := .later }
def ConditionMeansUptoCardSaid : Prop := Claim7.holds Tryz.pinned (.plain (OpenSpec.upto conditionMeansSpec)) conditionMeansUptoCard

/-- THE SECOND FORM's CARD OF 'confluentlaw22.ConditionOpen'. -/
def conditionOpenUptoCard : Claim7 := { stood := { row := conditionOpenUptoRow, standIns := [], harness := (true, "56cef261923c9fb4aa0e7bb7e84cc52ffc0cc7285f01ac50175ff0360cd3a0d2"), looks := false }, kinds := [], alts := [], laidByText := true, laidKinds := [.listed, .data], laidTests := true, laidLooks := .later }
def ConditionOpenUptoCardSaid : Prop := Claim7.holds Tryz.pinned (.plain (OpenSpec.upto conditionOpenSpec)) conditionOpenUptoCard

/-- THE SECOND FORM's CARD OF 'confluentlaw22.ConditionRelative'. -/
def conditionRelativeUptoCard : Claim7 := { stood := { row := conditionRelativeUptoRow, standIns := [], harness := (true, "56cef261923c9fb4aa0e7bb7e84cc52ffc0cc7285f01ac50175ff0360cd3a0d2"), looks := false }, kinds := [], alts := [], laidByText := true, laidKinds := [.listed, .data], laidTests := true, laidLooks := .later }
def ConditionRelativeUptoCardSaid : Prop := Claim7.holds Tryz.pinned (.plain (OpenSpec.upto conditionRelativeSpec)) conditionRelativeUptoCard

/-- THE SECOND FORM's CARD OF 'confluentlaw22.ConditionMirror'. -/
def conditionMirrorUptoCard : Claim7 := { stood := { row := conditionMirrorUptoRow, standIns := [], harness := (true, "56cef261923c9fb4aa0e7bb7e84cc52ffc0cc7285f01ac50175ff0360cd3a0d2"), looks := false }, kinds := [], alts := [], laidByText := true, laidKinds := [.listed, .data], laidTests := true, laidLooks := .later }
def ConditionMirrorUptoCardSaid : Prop := Claim7.holds Tryz.pinned (.plain (OpenSpec.upto conditionMirrorSpec)) conditionMirrorUptoCard
end Rows
end Go.Proofs.YtcagdmegicijlaaGreatDoor
