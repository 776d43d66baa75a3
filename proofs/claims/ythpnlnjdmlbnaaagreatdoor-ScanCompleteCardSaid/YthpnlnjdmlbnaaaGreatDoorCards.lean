/-
  DERIVED. GIVEN WITH THE SEED: THE CARDS: each row of YthpnlnjdmlbnaaaGreatDoorRows.lean that lists a variable, with what it lists TIED to the program's text (the seventh form; the later family's looks); each row that meets fmt, with fmt's text TOLD by the authors' own Lean function (tested against real Go, not proved from fmt's source: count such statements apart). THE CARD IS WHAT COUNTS. Prove the row's statement (the work); the ties are given (YthpnlnjdmlbnaaaGreatDoorTie.lean); close each card by the builder's one call (the guide's Derived/Test/ToyasCard.lean, 'card_holds'). Laid BY PROGRAM, IN A SANDBOX (cutbox-door.mjs). By AI agents, Wed Nov 11 2026. No macro, syntax, notation, axiom, sorry.
-/
import Derived.Test.YthpnlnjdmlbnaaaGreatDoorRows
import GoSem.ClaimSeven
namespace Go.Proofs.YthpnlnjdmlbnaaaGreatDoor
namespace Rows

/-- THE TIED CARD OF 'beltwaylaw22.ScanParts'. -/
def scanPartsCard : Claim7 := { stood := { row := scanPartsRow, standIns := [], harness := (true, "f5e7ea8aa3ed05075072cace0462b6da40eca32a569acdbde2945b9a1519df86"), looks := false }, kinds := [], alts := [], laidByText := true, laidKinds := [.data], laidTests := true, laidLooks := .later }
def ScanPartsCardSaid : Prop := Claim7.holds Tryz.pinned (.plain (OpenSpec.ofChange scanPartsSpec)) scanPartsCard

/-- THE TIED CARD OF 'beltwaylaw22.ScanComplete'. -/
def scanCompleteCard : Claim7 := { stood := { row := scanCompleteRow, standIns := [], harness := (true, "f5e7ea8aa3ed05075072cace0462b6da40eca32a569acdbde2945b9a1519df86"), looks := false }, kinds := [], alts := [], laidByText := true, laidKinds := [.data], laidTests := true, laidLooks := .later }
def ScanCompleteCardSaid : Prop := Claim7.holds Tryz.pinned (.plain (OpenSpec.ofChange scanCompleteSpec)) scanCompleteCard

/-- THE TIED CARD OF 'beltwaylaw22.ScanFinds'. -/
def scanFindsCard : Claim7 := { stood := { row := scanFindsRow, standIns := [], harness := (true, "f5e7ea8aa3ed05075072cace0462b6da40eca32a569acdbde2945b9a1519df86"), looks := false }, kinds := [], alts := [], laidByText := true, laidKinds := [.data], laidTests := true, laidLooks := .later }
def ScanFindsCardSaid : Prop := Claim7.holds Tryz.pinned (.plain (OpenSpec.ofChange scanFindsSpec)) scanFindsCard

/-- THE TIED CARD OF 'beltwaylaw24.RebuildSets'. -/
def rebuildSetsCard : Claim7 := { stood := { row := rebuildSetsRow, standIns := [], harness := (true, "f5e7ea8aa3ed05075072cace0462b6da40eca32a569acdbde2945b9a1519df86"), looks := false }, kinds := [], alts := [], laidByText := true, laidKinds := [.data], laidTests := true, laidLooks := .later }
def RebuildSetsCardSaid : Prop := Claim7.holds Tryz.pinned (.plain (OpenSpec.ofChange rebuildSetsSpec)) rebuildSetsCard

/-- THE TIED CARD OF 'beltwaylaw24.RebuildOrder'. -/
def rebuildOrderCard : Claim7 := { stood := { row := rebuildOrderRow, standIns := [], harness := (true, "f5e7ea8aa3ed05075072cace0462b6da40eca32a569acdbde2945b9a1519df86"), looks := false }, kinds := [], alts := [], laidByText := true, laidKinds := [.data], laidTests := true, laidLooks := .later }
def RebuildOrderCardSaid : Prop := Claim7.holds Tryz.pinned (.plain (OpenSpec.ofChange rebuildOrderSpec)) rebuildOrderCard

/-- THE TIED CARD OF 'beltwaylaw24.RebuildKnows'. -/
def rebuildKnowsCard : Claim7 := { stood := { row := rebuildKnowsRow, standIns := [], harness := (true, "f5e7ea8aa3ed05075072cace0462b6da40eca32a569acdbde2945b9a1519df86"), looks := false }, kinds := [], alts := [], laidByText := true, laidKinds := [.data], laidTests := true, laidLooks := .later }
def RebuildKnowsCardSaid : Prop := Claim7.holds Tryz.pinned (.plain (OpenSpec.ofChange rebuildKnowsSpec)) rebuildKnowsCard

/-- THE TIED CARD OF 'beltwaylaw33.BoundCounts'. -/
def boundCountsCard : Claim7 := { stood := { row := boundCountsRow, standIns := [], harness := (true, "f5e7ea8aa3ed05075072cace0462b6da40eca32a569acdbde2945b9a1519df86"), looks := false }, kinds := [], alts := [], laidByText := true, laidKinds := [.data], laidTests := true, laidLooks := .later }
def BoundCountsCardSaid : Prop := Claim7.holds Tryz.pinned (.plain (OpenSpec.ofChange boundCountsSpec)) boundCountsCard

/-- THE TIED CARD OF 'beltwaylaw33.BoundSteps'. -/
def boundStepsCard : Claim7 := { stood := { row := boundStepsRow, standIns := [], harness := (true, "f5e7ea8aa3ed05075072cace0462b6da40eca32a569acdbde2945b9a1519df86"), looks := false }, kinds := [], alts := [], laidByText := true, laidKinds := [.data], laidTests := true, laidLooks := .later }
def BoundStepsCardSaid : Prop := Claim7.holds Tryz.pinned (.plain (OpenSpec.ofChange boundStepsSpec)) boundStepsCard

/-- THE SECOND FORM's CARD OF 'beltwaylaw22.ScanParts'. -/
def scanPartsUptoCard : Claim7 := { stood := { row := scanPartsUptoRow, standIns := [], harness := (true, "f5e7ea8aa3ed05075072cace0462b6da40eca32a569acdbde2945b9a1519df86"), looks := false }, kinds := [], alts := [], laidByText := true, laidKinds := [.data], laidTests := true, laidLooks := .later }
def ScanPartsUptoCardSaid : Prop := Claim7.holds Tryz.pinned (.plain (OpenSpec.upto scanPartsSpec)) scanPartsUptoCard

/-- THE SECOND FORM's CARD OF 'beltwaylaw22.ScanComplete'. -/
def scanCompleteUptoCard : Claim7 := { stood := { row := scanCompleteUptoRow, standIns := [], harness := (true, "f5e7ea8aa3ed05075072cace0462b6da40eca32a569acdbde2945b9a1519df86"), looks := false }, kinds := [], alts := [], laidByText := true, laidKinds := [.data], laidTests := true, laidLooks := .later }
def ScanCompleteUptoCardSaid : Prop := Claim7.holds Tryz.pinned (.plain (OpenSpec.upto scanCompleteSpec)) scanCompleteUptoCard

/-- THE SECOND FORM's CARD OF 'beltwaylaw22.ScanFinds'. -/
def scanFindsUptoCard : Claim7 := { stood := { row := scanFindsUptoRow, standIns := [], harness := (true, "f5e7ea8aa3ed05075072cace0462b6da40eca32a569acdbde2945b9a1519df86"), looks := false }, kinds := [], alts := [], laidByText := true, laidKinds := [.data], laidTests := true, laidLooks := .later }
def ScanFindsUptoCardSaid : Prop := Claim7.holds Tryz.pinned (.plain (OpenSpec.upto scanFindsSpec)) scanFindsUptoCard

/-- THE SECOND FORM's CARD OF 'beltwaylaw24.RebuildSets'. -/
def rebuildSetsUptoCard : Claim7 := { stood := { row := rebuildSetsUptoRow, standIns := [], harness := (true, "f5e7ea8aa3ed05075072cace0462b6da40eca32a569acdbde2945b9a1519df86"), looks := false }, kinds := [], alts := [], laidByText := true, laidKinds := [.data], laidTests := true, laidLooks := .later }
def RebuildSetsUptoCardSaid : Prop := Claim7.holds Tryz.pinned (.plain (OpenSpec.upto rebuildSetsSpec)) rebuildSetsUptoCard

/-- THE SECOND FORM's CARD OF 'beltwaylaw24.RebuildOrder'. -/
def rebuildOrderUptoCard : Claim7 := { stood := { row := rebuildOrderUptoRow, standIns := [], harness := (true, "f5e7ea8aa3ed05075072cace0462b6da40eca32a569acdbde2945b9a1519df86"), looks := false }, kinds := [], alts := [], laidByText := true, laidKinds := [.data], laidTests := true, laidLooks := .later }
def RebuildOrderUptoCardSaid : Prop := Claim7.holds Tryz.pinned (.plain (OpenSpec.upto rebuildOrderSpec)) rebuildOrderUptoCard

/-- THE SECOND FORM's CARD OF 'beltwaylaw24.RebuildKnows'. -/
def rebuildKnowsUptoCard : Claim7 := { stood := { row := rebuildKnowsUptoRow, standIns := [], harness := (true, "f5e7ea8aa3ed05075072cace0462b6da40eca32a569acdbde2945b9a1519df86"), looks := false }, kinds := [], alts := [], laidByText := true, laidKinds := [.data], laidTests := true, laidLooks := .later }
def RebuildKnowsUptoCardSaid : Prop := Claim7.holds Tryz.pinned (.plain (OpenSpec.upto rebuildKnowsSpec)) rebuildKnowsUptoCard

/-- THE SECOND FORM's CARD OF 'beltwaylaw33.BoundCounts'. -/
def boundCountsUptoCard : Claim7 := { stood := { row := boundCountsUptoRow, standIns := [], harness := (true, "f5e7ea8aa3ed05075072cace0462b6da40eca32a569acdbde2945b9a1519df86"), looks := false }, kinds := [], alts := [], laidByText := true, laidKinds := [.data], laidTests := true, laidLooks := .later }
def BoundCountsUptoCardSaid : Prop := Claim7.holds Tryz.pinned (.plain (OpenSpec.upto boundCountsSpec)) boundCountsUptoCard

/-- THE SECOND FORM's CARD OF 'beltwaylaw33.BoundSteps'. -/
def boundStepsUptoCard : Claim7 := { stood := { row := boundStepsUptoRow, standIns := [], harness := (true, "f5e7ea8aa3ed05075072cace0462b6da40eca32a569acdbde2945b9a1519df86"), looks := false }, kinds := [], alts := [], laidByText := true, laidKinds := [.data], laidTests := true, laidLooks := .later }
def BoundStepsUptoCardSaid : Prop := Claim7.holds Tryz.pinned (.plain (OpenSpec.upto boundStepsSpec)) boundStepsUptoCard
end Rows
end Go.Proofs.YthpnlnjdmlbnaaaGreatDoor
