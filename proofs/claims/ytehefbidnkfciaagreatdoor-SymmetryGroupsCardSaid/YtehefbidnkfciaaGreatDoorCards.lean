/-
  DERIVED. GIVEN WITH THE SEED: THE CARDS: each row of YtehefbidnkfciaaGreatDoorRows.lean that lists a variable, with what it lists TIED to the program's text (the seventh form; the later family's looks); each row that meets fmt, with fmt's text TOLD by the authors' own Lean function (tested against real Go, not proved from fmt's source: count such statements apart). THE CARD IS WHAT COUNTS. Prove the row's statement (the work); the ties are given (YtehefbidnkfciaaGreatDoorTie.lean); close each card by the builder's one call (the guide's Derived/Test/ToyasCard.lean, 'card_holds'). Laid BY PROGRAM, IN A SANDBOX (cutbox-door.mjs). By AI agents, Wed Nov 11 2026. No macro, syntax, notation, axiom, sorry.
-/
import Derived.Test.YtehefbidnkfciaaGreatDoorRows
import GoSem.ClaimSeven
namespace Go.Proofs.YtehefbidnkfciaaGreatDoor
namespace Rows

/-- THE TIED CARD OF 'confluentlaw16.SymmetryOrder'. -/
def symmetryOrderCard : Claim7 := { stood := { row := symmetryOrderRow, standIns := [], harness := (true, "498f36b4eab4059febe55a37feebbf605295b0e3fe69eb22d3c2310d73eff132"), looks := false }, kinds := [], alts := [], laidByText := true, laidKinds := [.listed, .data], laidTests := true, laidLooks := .later }
def SymmetryOrderCardSaid : Prop := Claim7.holds Tryz.pinned (.plain (OpenSpec.ofChange symmetryOrderSpec)) symmetryOrderCard

/-- THE TIED CARD OF 'confluentlaw16.SymmetryGroups'. -/
def symmetryGroupsCard : Claim7 := { stood := { row := symmetryGroupsRow, standIns := [], harness := (true, "498f36b4eab4059febe55a37feebbf605295b0e3fe69eb22d3c2310d73eff132"), looks := false }, kinds := [], alts := [], laidByText := true, laidKinds := [.listed, .data], laidTests := true, laidLooks := .later }
def SymmetryGroupsCardSaid : Prop := Claim7.holds Tryz.pinned (.plain (OpenSpec.ofChange symmetryGroupsSpec)) symmetryGroupsCard

/-- THE TIED CARD OF 'confluentlaw16.SymmetryKeeps'. -/
def symmetryKeepsCard : Claim7 := { stood := { row := symmetryKeepsRow, standIns := [], harness := (true, "498f36b4eab4059febe55a37feebbf605295b0e3fe69eb22d3c2310d73eff132"), looks := false }, kinds := [], alts := [], laidByText := true, laidKinds := [.listed, .data], laidTests := true, laidLooks := .later }
def SymmetryKeepsCardSaid : Prop := Claim7.holds Tryz.pinned (.plain (OpenSpec.ofChange symmetryKeepsSpec)) symmetryKeepsCard

/-- THE TIED CARD OF 'confluentlaw16.SymmetryOrbits'. -/
def symmetryOrbitsCard : Claim7 := { stood := { row := symmetryOrbitsRow, standIns := [], harness := (true, "498f36b4eab4059febe55a37feebbf605295b0e3fe69eb22d3c2310d73eff132"), looks := false }, kinds := [], alts := [], laidByText := true, laidKinds := [.listed, .data], laidTests := true, laidLooks := .later }
def SymmetryOrbitsCardSaid : Prop := Claim7.holds Tryz.pinned (.plain (OpenSpec.ofChange symmetryOrbitsSpec)) symmetryOrbitsCard

/-- THE TIED CARD OF 'confluentlaw16.SymmetryMoves'. -/
def symmetryMovesCard : Claim7 := { stood := { row := symmetryMovesRow, standIns := [], harness := (true, "498f36b4eab4059febe55a37feebbf605295b0e3fe69eb22d3c2310d73eff132"), looks := false }, kinds := [], alts := [], laidByText := true, laidKinds := [.listed, .data], laidTests := true, laidLooks := .later }
def SymmetryMovesCardSaid : Prop := Claim7.holds Tryz.pinned (.plain (OpenSpec.ofChange symmetryMovesSpec)) symmetryMovesCard

/-- THE TIED CARD OF 'confluentlaw16.SymmetryMaps'. -/
def symmetryMapsCard : Claim7 := { stood := { row := symmetryMapsRow, standIns := [], harness := (true, "498f36b4eab4059febe55a37feebbf605295b0e3fe69eb22d3c2310d73eff132"), looks := false }, kinds := [], alts := [], laidByText := true, laidKinds := [.listed, .data], laidTests := true, laidLooks := .later }
def SymmetryMapsCardSaid : Prop := Claim7.holds Tryz.pinned (.plain (OpenSpec.ofChange symmetryMapsSpec)) symmetryMapsCard

/-- THE TIED CARD OF 'confluentlaw16.SymmetryTwice'. -/
def symmetryTwiceCard : Claim7 := { stood := { row := symmetryTwiceRow, standIns := [], harness := (true, "498f36b4eab4059febe55a37feebbf605295b0e3fe69eb22d3c2310d73eff132"), looks := false }, kinds := [], alts := [], laidByText := true, laidKinds := [.listed, .data], laidTests := true, laidLooks := .later }
def SymmetryTwiceCardSaid : Prop := Claim7.holds Tryz.pinned (.plain (OpenSpec.ofChange symmetryTwiceSpec)) symmetryTwiceCard

/-- THE SECOND FORM's CARD OF 'confluentlaw16.SymmetryOrder'. -/
def symmetryOrderUptoCard : Claim7 := { stood := { row := symmetryOrderUptoRow, standIns := [], harness := (true, "498f36b4eab4059febe55a37feebbf605295b0e3fe69eb22d3c2310d73eff132"), looks := false }, kinds := [], alts := [], laidByText := true, laidKinds := [.listed, .data], laidTests := true, laidLooks := .later }
def SymmetryOrderUptoCardSaid : Prop := Claim7.holds Tryz.pinned (.plain (OpenSpec.upto symmetryOrderSpec)) symmetryOrderUptoCard

/-- THE SECOND FORM's CARD OF 'confluentlaw16.SymmetryGroups'. -/
def symmetryGroupsUptoCard : Claim7 := { stood := { row := symmetryGroupsUptoRow, standIns := [], harness := (true, "498f36b4eab4059febe55a37feebbf605295b0e3fe69eb22d3c2310d73eff132"), looks := false }, kinds := [], alts := [], laidByText := true, laidKinds := [.listed, .data], laidTests := true, laidLooks := .later }
def SymmetryGroupsUptoCardSaid : Prop := Claim7.holds Tryz.pinned (.plain (OpenSpec.upto symmetryGroupsSpec)) symmetryGroupsUptoCard

/-- THE SECOND FORM's CARD OF 'confluentlaw16.SymmetryKeeps'. -/
def symmetryKeepsUptoCard : Claim7 := { stood := { row := symmetryKeepsUptoRow, standIns := [], harness := (true, "498f36b4eab4059febe55a37feebbf605295b0e3fe69eb22d3c2310d73eff132"), looks := false }, kinds := [], alts := [], laidByText := true, laidKinds := [.listed, .data], laidTests := true, laidLooks := .later }
def SymmetryKeepsUptoCardSaid : Prop := Claim7.holds Tryz.pinned (.plain (OpenSpec.upto symmetryKeepsSpec)) symmetryKeepsUptoCard

/-- THE SECOND FORM's CARD OF 'confluentlaw16.SymmetryOrbits'. -/
def symmetryOrbitsUptoCard : Claim7 := { stood := { row := symmetryOrbitsUptoRow, standIns := [], harness := (true, "498f36b4eab4059febe55a37feebbf605295b0e3fe69eb22d3c2310d73eff132"), looks := false }, kinds := [], alts := [], laidByText := true, laidKinds := [.listed, .data], laidTests := true, laidLooks := .later }
def SymmetryOrbitsUptoCardSaid : Prop := Claim7.holds Tryz.pinned (.plain (OpenSpec.upto symmetryOrbitsSpec)) symmetryOrbitsUptoCard

/-- THE SECOND FORM's CARD OF 'confluentlaw16.SymmetryMoves'. -/
def symmetryMovesUptoCard : Claim7 := { stood := { row := symmetryMovesUptoRow, standIns := [], harness := (true, "498f36b4eab4059febe55a37feebbf605295b0e3fe69eb22d3c2310d73eff132"), looks := false }, kinds := [], alts := [], laidByText := true, laidKinds := [.listed, .data], laidTests := true, laidLooks := .later }
def SymmetryMovesUptoCardSaid : Prop := Claim7.holds Tryz.pinned (.plain (OpenSpec.upto symmetryMovesSpec)) symmetryMovesUptoCard

/-- THE SECOND FORM's CARD OF 'confluentlaw16.SymmetryMaps'. -/
def symmetryMapsUptoCard : Claim7 := { stood := { row := symmetryMapsUptoRow, standIns := [], harness := (true, "498f36b4eab4059febe55a37feebbf605295b0e3fe69eb22d3c2310d73eff132"), looks := false }, kinds := [], alts := [], laidByText := true, laidKinds := [.listed, .data], laidTests := true, laidLooks := .later }
def SymmetryMapsUptoCardSaid : Prop := Claim7.holds Tryz.pinned (.plain (OpenSpec.upto symmetryMapsSpec)) symmetryMapsUptoCard

/-- THE SECOND FORM's CARD OF 'confluentlaw16.SymmetryTwice'. -/
def symmetryTwiceUptoCard : Claim7 := { stood := { row := symmetryTwiceUptoRow, standIns := [], harness := (true, "498f36b4eab4059febe55a37feebbf605295b0e3fe69eb22d3c2310d73eff132"), looks := false }, kinds := [], alts := [], laidByText := true, laidKinds := [.listed, .data], laidTests := true, laidLooks := .later }
def SymmetryTwiceUptoCardSaid : Prop := Claim7.holds Tryz.pinned (.plain (OpenSpec.upto symmetryTwiceSpec)) symmetryTwiceUptoCard
end Rows
end Go.Proofs.YtehefbidnkfciaaGreatDoor
