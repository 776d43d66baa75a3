/-
  DERIVED. GIVEN WITH THE SEED: THE CARDS: each row of YthadnbdbfpggdaaGreatDoorRows.lean that lists a variable, with what it lists TIED to the program's text (the seventh form; the later family's looks); each row that meets fmt, with fmt's text TOLD by the authors' own Lean function (tested against real Go, not proved from fmt's source: count such statements apart). THE CARD IS WHAT COUNTS. Prove the row's statement (the work); the ties are given (YthadnbdbfpggdaaGreatDoorTie.lean); close each card by the builder's one call (the guide's Derived/Test/ToyasCard.lean, 'card_holds'). Laid BY PROGRAM, IN A SANDBOX (cutbox-door.mjs). By AI agents, Wed Nov 11 2026. No macro, syntax, notation, axiom, sorry.
-/
import Derived.Test.YthadnbdbfpggdaaGreatDoorRows
import GoSem.ClaimSeven
namespace Go.Proofs.YthadnbdbfpggdaaGreatDoor
namespace Rows

/-- THE TIED CARD OF 'beltwaylaw24.RebuildSets'. -/
def rebuildSetsCard : Claim7 := { stood := { row := rebuildSetsRow, standIns := [], harness := (true, "3b1a6fe73e8994d9f0bd73bd14fd1174374129dd33f68ba791da1b50f701f179"), looks := false }, kinds := [], alts := [], laidByText := true, laidKinds := [.data], laidTests := true, laidLooks := .later }
def RebuildSetsCardSaid : Prop := Claim7.holds Tryz.pinned (.plain (OpenSpec.ofChange rebuildSetsSpec)) rebuildSetsCard

/-- THE TIED CARD OF 'beltwaylaw24.RebuildOrder'. -/
def rebuildOrderCard : Claim7 := { stood := { row := rebuildOrderRow, standIns := [], harness := (true, "3b1a6fe73e8994d9f0bd73bd14fd1174374129dd33f68ba791da1b50f701f179"), looks := false }, kinds := [], alts := [], laidByText := true, laidKinds := [.data], laidTests := true, laidLooks := .later }
def RebuildOrderCardSaid : Prop := Claim7.holds Tryz.pinned (.plain (OpenSpec.ofChange rebuildOrderSpec)) rebuildOrderCard

/-- THE TIED CARD OF 'beltwaylaw24.RebuildKnows'. -/
def rebuildKnowsCard : Claim7 := { stood := { row := rebuildKnowsRow, standIns := [], harness := (true, "3b1a6fe73e8994d9f0bd73bd14fd1174374129dd33f68ba791da1b50f701f179"), looks := false }, kinds := [], alts := [], laidByText := true, laidKinds := [.data], laidTests := true, laidLooks := .later }
def RebuildKnowsCardSaid : Prop := Claim7.holds Tryz.pinned (.plain (OpenSpec.ofChange rebuildKnowsSpec)) rebuildKnowsCard

/-- THE SECOND FORM's CARD OF 'beltwaylaw24.RebuildSets'. -/
def rebuildSetsUptoCard : Claim7 := { stood := { row := rebuildSetsUptoRow, standIns := [], harness := (true, "3b1a6fe73e8994d9f0bd73bd14fd1174374129dd33f68ba791da1b50f701f179"), looks := false }, kinds := [], alts := [], laidByText := true, laidKinds := [.data], laidTests := true, laidLooks := .later }
def RebuildSetsUptoCardSaid : Prop := Claim7.holds Tryz.pinned (.plain (OpenSpec.upto rebuildSetsSpec)) rebuildSetsUptoCard

/-- THE SECOND FORM's CARD OF 'beltwaylaw24.RebuildOrder'. -/
def rebuildOrderUptoCard : Claim7 := { stood := { row := rebuildOrderUptoRow, standIns := [], harness := (true, "3b1a6fe73e8994d9f0bd73bd14fd1174374129dd33f68ba791da1b50f701f179"), looks := false }, kinds := [], alts := [], laidByText := true, laidKinds := [.data], laidTests := true, laidLooks := .later }
def RebuildOrderUptoCardSaid : Prop := Claim7.holds Tryz.pinned (.plain (OpenSpec.upto rebuildOrderSpec)) rebuildOrderUptoCard

/-- THE SECOND FORM's CARD OF 'beltwaylaw24.RebuildKnows'. -/
def rebuildKnowsUptoCard : Claim7 := { stood := { row := rebuildKnowsUptoRow, standIns := [], harness := (true, "3b1a6fe73e8994d9f0bd73bd14fd1174374129dd33f68ba791da1b50f701f179"), looks := false }, kinds := [], alts := [], laidByText := true, laidKinds := [.data], laidTests := true, laidLooks := .later }
def RebuildKnowsUptoCardSaid : Prop := Claim7.holds Tryz.pinned (.plain (OpenSpec.upto rebuildKnowsSpec)) rebuildKnowsUptoCard
end Rows
end Go.Proofs.YthadnbdbfpggdaaGreatDoor
