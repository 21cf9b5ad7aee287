/-
  DERIVED. GIVEN WITH THE SEED: THE CARDS: each row of YtbnhmfnagdgcmaaGreatDoorRows.lean that lists a variable, with what it lists TIED to the program's text (the seventh form; the later family's looks); each row that meets fmt, with fmt's text TOLD by the authors' own Lean function (tested against real Go, not proved from fmt's source: count such statements apart). THE CARD IS WHAT COUNTS. Prove the row's statement (the work); the ties are given (YtbnhmfnagdgcmaaGreatDoorTie.lean); close each card by the builder's one call (the guide's Derived/Test/ToyasCard.lean, 'card_holds'). Laid BY PROGRAM, IN A SANDBOX (cutbox-door.mjs). By AI agents, Wed Nov 11 2026. No macro, syntax, notation, axiom, sorry.
-/
import Derived.Test.YtbnhmfnagdgcmaaGreatDoorRows
import GoSem.ClaimSeven
namespace Go.Proofs.YtbnhmfnagdgcmaaGreatDoor
namespace Rows

/-- THE TIED CARD OF 'confluentlaw24.ScenarioForms'. -/
def scenarioFormsCard : Claim7 := { stood := { row := scenarioFormsRow, standIns := [], harness := (true, "9868e8622672d1a863ce706444d560f402336b3548a5bcfa96f15dd56afe229c"), looks := true }, kinds := [], alts := [], laidByText := true, laidKinds := [.data, .data, .data, .data, .sentinel, .sentinel, .listed, .data, .pinned], laidTests := true, laidLooks := .later }
def ScenarioFormsCardSaid : Prop := Claim7.holds Tryz.pinned (.plain (OpenSpec.ofChange scenarioFormsSpec)) scenarioFormsCard

/-- THE TIED CARD OF 'confluentlaw24.ScenarioTexts'. -/
def scenarioTextsCard : Claim7 := { stood := { row := scenarioTextsRow, standIns := [], harness := (true, "9868e8622672d1a863ce706444d560f402336b3548a5bcfa96f15dd56afe229c"), looks := true }, kinds := [], alts := [], laidByText := true, laidKinds := [.data, .data, .data, .data, .sentinel, .sentinel, .listed, .data, .pinned], laidTests := true, laidLooks := .later }
def ScenarioTextsCardSaid : Prop := Claim7.holds Tryz.pinned (.plain (OpenSpec.ofChange scenarioTextsSpec)) scenarioTextsCard

/-- THE TIED CARD OF 'confluentlaw24.ScenarioTells'. -/
def scenarioTellsCard : Claim7 := { stood := { row := scenarioTellsRow, standIns := [], harness := (true, "9868e8622672d1a863ce706444d560f402336b3548a5bcfa96f15dd56afe229c"), looks := true }, kinds := [], alts := [], laidByText := true, laidKinds := [.data, .data, .data, .data, .sentinel, .sentinel, .listed, .data, .pinned], laidTests := true, laidLooks := .later }
def ScenarioTellsCardSaid : Prop := Claim7.holds Tryz.pinned (.plain (OpenSpec.ofChange scenarioTellsSpec)) scenarioTellsCard

/-- THE TIED CARD OF 'confluentlaw24.ScenarioShows'. -/
def scenarioShowsCard : Claim7 := { stood := { row := scenarioShowsRow, standIns := [], harness := (true, "9868e8622672d1a863ce706444d560f402336b3548a5bcfa96f15dd56afe229c"), looks := true }, kinds := [], alts := [], laidByText := true, laidKinds := [.data, .data, .data, .data, .sentinel, .sentinel, .listed, .data, .pinned], laidTests := true, laidLooks := .later }
def ScenarioShowsCardSaid : Prop := Claim7.holds Tryz.pinned (.plain (OpenSpec.ofChange scenarioShowsSpec)) scenarioShowsCard

/-- THE TIED CARD OF 'confluentlaw24.ScenarioReturns'. -/
def scenarioReturnsCard : Claim7 := { stood := { row := scenarioReturnsRow, standIns := [], harness := (true, "9868e8622672d1a863ce706444d560f402336b3548a5bcfa96f15dd56afe229c"), looks := true }, kinds := [], alts := [], laidByText := true, laidKinds := [.data, .data, .data, .data, .sentinel, .sentinel, .listed, .data, .pinned], laidTests := true, laidLooks := .later }
def ScenarioReturnsCardSaid : Prop := Claim7.holds Tryz.pinned (.plain (OpenSpec.ofChange scenarioReturnsSpec)) scenarioReturnsCard

/-- THE TIED CARD OF 'confluentlaw24.ScenarioNames'. -/
def scenarioNamesCard : Claim7 := { stood := { row := scenarioNamesRow, standIns := [], harness := (true, "9868e8622672d1a863ce706444d560f402336b3548a5bcfa96f15dd56afe229c"), looks := true }, kinds := [], alts := [], laidByText := true, laidKinds := [.data, .data, .data, .data, .sentinel, .sentinel, .listed, .data, .pinned], laidTests := true, laidLooks := .later }
def ScenarioNamesCardSaid : Prop := Claim7.holds Tryz.pinned (.plain (OpenSpec.ofChange scenarioNamesSpec)) scenarioNamesCard

/-- THE SECOND FORM's CARD OF 'confluentlaw24.ScenarioForms'. -/
def scenarioFormsUptoCard : Claim7 := { stood := { row := scenarioFormsUptoRow, standIns := [], harness := (true, "9868e8622672d1a863ce706444d560f402336b3548a5bcfa96f15dd56afe229c"), looks := true }, kinds := [], alts := [], laidByText := true, laidKinds := [.data, .data, .data, .data, .sentinel, .sentinel, .listed, .data, .pinned], laidTests := true, laidLooks := .later }
def ScenarioFormsUptoCardSaid : Prop := Claim7.holds Tryz.pinned (.plain (OpenSpec.upto scenarioFormsSpec)) scenarioFormsUptoCard

/-- THE SECOND FORM's CARD OF 'confluentlaw24.ScenarioTexts'. -/
def scenarioTextsUptoCard : Claim7 := { stood := { row := scenarioTextsUptoRow, standIns := [], harness := (true, "9868e8622672d1a863ce706444d560f402336b3548a5bcfa96f15dd56afe229c"), looks := true }, kinds := [], alts := [], laidByText := true, laidKinds := [.data, .data, .data, .data, .sentinel, .sentinel, .listed, .data, .pinned], laidTests := true, laidLooks := .later }
def ScenarioTextsUptoCardSaid : Prop := Claim7.holds Tryz.pinned (.plain (OpenSpec.upto scenarioTextsSpec)) scenarioTextsUptoCard

/-- THE SECOND FORM's CARD OF 'confluentlaw24.ScenarioTells'. -/
def scenarioTellsUptoCard : Claim7 := { stood := { row := scenarioTellsUptoRow, standIns := [], harness := (true, "9868e8622672d1a863ce706444d560f402336b3548a5bcfa96f15dd56afe229c"), looks := true }, kinds := [], alts := [], laidByText := true, laidKinds := [.data, .data, .data, .data, .sentinel, .sentinel, .listed, .data, .pinned], laidTests := true, laidLooks := .later }
def ScenarioTellsUptoCardSaid : Prop := Claim7.holds Tryz.pinned (.plain (OpenSpec.upto scenarioTellsSpec)) scenarioTellsUptoCard

/-- THE SECOND FORM's CARD OF 'confluentlaw24.ScenarioShows'. -/
def scenarioShowsUptoCard : Claim7 := { stood := { row := scenarioShowsUptoRow, standIns := [], harness := (true, "9868e8622672d1a863ce706444d560f402336b3548a5bcfa96f15dd56afe229c"), looks := true }, kinds := [], alts := [], laidByText := true, laidKinds := [.data, .data, .data, .data, .sentinel, .sentinel, .listed, .data, .pinned], laidTests := true, laidLooks := .later }
def ScenarioShowsUptoCardSaid : Prop := Claim7.holds Tryz.pinned (.plain (OpenSpec.upto scenarioShowsSpec)) scenarioShowsUptoCard

/-- THE SECOND FORM's CARD OF 'confluentlaw24.ScenarioReturns'. -/
def scenarioReturnsUptoCard : Claim7 := { stood := { row := scenarioReturnsUptoRow, standIns := [], harness := (true, "9868e8622672d1a863ce706444d560f402336b3548a5bcfa96f15dd56afe229c"), looks := true }, kinds := [], alts := [], laidByText := true, laidKinds := [.data, .data, .data, .data, .sentinel, .sentinel, .listed, .data, .pinned], laidTests := true, laidLooks := .later }
def ScenarioReturnsUptoCardSaid : Prop := Claim7.holds Tryz.pinned (.plain (OpenSpec.upto scenarioReturnsSpec)) scenarioReturnsUptoCard

/-- THE SECOND FORM's CARD OF 'confluentlaw24.ScenarioNames'. -/
def scenarioNamesUptoCard : Claim7 := { stood := { row := scenarioNamesUptoRow, standIns := [], harness := (true, "9868e8622672d1a863ce706444d560f402336b3548a5bcfa96f15dd56afe229c"), looks := true }, kinds := [], alts := [], laidByText := true, laidKinds := [.data, .data, .data, .data, .sentinel, .sentinel, .listed, .data, .pinned], laidTests := true, laidLooks := .later }
def ScenarioNamesUptoCardSaid : Prop := Claim7.holds Tryz.pinned (.plain (OpenSpec.upto scenarioNamesSpec)) scenarioNamesUptoCard
end Rows
end Go.Proofs.YtbnhmfnagdgcmaaGreatDoor
