/-
  DERIVED. GIVEN WITH THE SEED: THE CARDS: each row of YtipkniadbkndfaaGreatDoorRows.lean that lists a variable, with what it lists TIED to the program's text (the seventh form; the later family's looks); each row that meets fmt, with fmt's text TOLD by the authors' own Lean function (tested against real Go, not proved from fmt's source: count such statements apart). THE CARD IS WHAT COUNTS. Prove the row's statement (the work); the ties are given (YtipkniadbkndfaaGreatDoorTie.lean); close each card by the builder's one call (the guide's Derived/Test/ToyasCard.lean, 'card_holds'). Laid BY PROGRAM, IN A SANDBOX (cutbox-door.mjs). By AI agents, Wed Nov 11 2026. No macro, syntax, notation, axiom, sorry.
-/
import Derived.Test.YtipkniadbkndfaaGreatDoorRows
import GoSem.ClaimSeven
namespace Go.Proofs.YtipkniadbkndfaaGreatDoor
namespace Rows

/-- THE TIED CARD OF 'confluentlaw23.PairDecides'. -/
def pairDecidesCard : Claim7 := { stood := { row := pairDecidesRow, standIns := [], harness := (true, "161748b83645a920bc79c65fe421bef7dfe1e18e012df73d8eddb3a36605a14a"), looks := true }, kinds := [], alts := [], laidByText := true, laidKinds := [.listed, .data], laidTests := true, laidLooks := .later }
def PairDecidesCardSaid : Prop := Claim7.holds Tryz.pinned (.plain (OpenSpec.ofChange pairDecidesSpec)) pairDecidesCard

/-- THE TIED CARD OF 'confluentlaw23.PairExact'. -/
def pairExactCard : Claim7 := { stood := { row := pairExactRow, standIns := [], harness := (true, "161748b83645a920bc79c65fe421bef7dfe1e18e012df73d8eddb3a36605a14a"), looks := true }, kinds := [], alts := [], laidByText := true, laidKinds := [.listed, .data], laidTests := true, laidLooks := .later }
def PairExactCardSaid : Prop := Claim7.holds Tryz.pinned (.plain (OpenSpec.ofChange pairExactSpec)) pairExactCard

/-- THE TIED CARD OF 'confluentlaw23.PairBudgets'. -/
def pairBudgetsCard : Claim7 := { stood := { row := pairBudgetsRow, standIns := [], harness := (true, "161748b83645a920bc79c65fe421bef7dfe1e18e012df73d8eddb3a36605a14a"), looks := true }, kinds := [], alts := [], laidByText := true, laidKinds := [.listed, .data], laidTests := true, laidLooks := .later }
def PairBudgetsCardSaid : Prop := Claim7.holds Tryz.pinned (.plain (OpenSpec.ofChange pairBudgetsSpec)) pairBudgetsCard

/-- THE TIED CARD OF 'confluentlaw23.PairRelative'. -/
def pairRelativeCard : Claim7 := { stood := { row := pairRelativeRow, standIns := [], harness := (true, "161748b83645a920bc79c65fe421bef7dfe1e18e012df73d8eddb3a36605a14a"), looks := true }, kinds := [], alts := [], laidByText := true, laidKinds := [.listed, .data], laidTests := true, laidLooks := .later }
def PairRelativeCardSaid : Prop := Claim7.holds Tryz.pinned (.plain (OpenSpec.ofChange pairRelativeSpec)) pairRelativeCard

/-- THE TIED CARD OF 'confluentlaw23.PairSymmetric'. -/
def pairSymmetricCard : Claim7 := { stood := { row := pairSymmetricRow, standIns := [], harness := (true, "161748b83645a920bc79c65fe421bef7dfe1e18e012df73d8eddb3a36605a14a"), looks := true }, kinds := [], alts := [], laidByText := true, laidKinds := [.listed, .data], laidTests := true, laidLooks := .later }
def PairSymmetricCardSaid : Prop := Claim7.holds Tryz.pinned (.plain (OpenSpec.ofChange pairSymmetricSpec)) pairSymmetricCard

/-- THE SECOND FORM's CARD OF 'confluentlaw23.PairDecides'. -/
def pairDecidesUptoCard : Claim7 := { stood := { row := pairDecidesUptoRow, standIns := [], harness := (true, "161748b83645a920bc79c65fe421bef7dfe1e18e012df73d8eddb3a36605a14a"), looks := true }, kinds := [], alts := [], laidByText := true, laidKinds := [.listed, .data], laidTests := true, laidLooks := .later }
def PairDecidesUptoCardSaid : Prop := Claim7.holds Tryz.pinned (.plain (OpenSpec.upto pairDecidesSpec)) pairDecidesUptoCard

/-- THE SECOND FORM's CARD OF 'confluentlaw23.PairExact'. -/
def pairExactUptoCard : Claim7 := { stood := { row := pairExactUptoRow, standIns := [], harness := (true, "161748b83645a920bc79c65fe421bef7dfe1e18e012df73d8eddb3a36605a14a"), looks := true }, kinds := [], alts := [], laidByText := true, laidKinds := [.listed, .data], laidTests := true, laidLooks := .later }
def PairExactUptoCardSaid : Prop := Claim7.holds Tryz.pinned (.plain (OpenSpec.upto pairExactSpec)) pairExactUptoCard

/-- THE SECOND FORM's CARD OF 'confluentlaw23.PairBudgets'. -/
def pairBudgetsUptoCard : Claim7 := { stood := { row := pairBudgetsUptoRow, standIns := [], harness := (true, "161748b83645a920bc79c65fe421bef7dfe1e18e012df73d8eddb3a36605a14a"), looks := true }, kinds := [], alts := [], laidByText := true, laidKinds := [.listed, .data], laidTests := true, laidLooks := .later }
def PairBudgetsUptoCardSaid : Prop := Claim7.holds Tryz.pinned (.plain (OpenSpec.upto pairBudgetsSpec)) pairBudgetsUptoCard

/-- THE SECOND FORM's CARD OF 'confluentlaw23.PairRelative'. -/
def pairRelativeUptoCard : Claim7 := { stood := { row := pairRelativeUptoRow, standIns := [], harness := (true, "161748b83645a920bc79c65fe421bef7dfe1e18e012df73d8eddb3a36605a14a"), looks := true }, kinds := [], alts := [], laidByText := true, laidKinds := [.listed, .data], laidTests := true, laidLooks := .later }
def PairRelativeUptoCardSaid : Prop := Claim7.holds Tryz.pinned (.plain (OpenSpec.upto pairRelativeSpec)) pairRelativeUptoCard

/-- THE SECOND FORM's CARD OF 'confluentlaw23.PairSymmetric'. -/
def pairSymmetricUptoCard : Claim7 := { stood := { row := pairSymmetricUptoRow, standIns := [], harness := (true, "161748b83645a920bc79c65fe421bef7dfe1e18e012df73d8eddb3a36605a14a"), looks := true }, kinds := [], alts := [], laidByText := true, laidKinds := [.listed, .data], laidTests := true, laidLooks := .later }
def PairSymmetricUptoCardSaid : Prop := Claim7.holds Tryz.pinned (.plain (OpenSpec.upto pairSymmetricSpec)) pairSymmetricUptoCard
end Rows
end Go.Proofs.YtipkniadbkndfaaGreatDoor
