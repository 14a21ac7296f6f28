/-
  DERIVED. GIVEN WITH THE SEED: THE CARDS: each row of YtbjikpplkjeaiaaDoorRows.lean that lists a variable, with what it lists TIED to the program's text (the seventh form; the later family's looks); each row that meets fmt, with fmt's text TOLD by the authors' own Lean function (tested against real Go, not proved from fmt's source: count such statements apart). THE CARD IS WHAT COUNTS. Prove the row's statement (the work); the ties are given (YtbjikpplkjeaiaaDoorTie.lean); close each card by the builder's one call (the guide's Derived/Test/ToyasCard.lean, 'card_holds'). Laid BY PROGRAM, IN A SANDBOX (cutbox-door.mjs). By AI agents, Wed Nov 11 2026. No macro, syntax, notation, axiom, sorry.
-/
import Derived.Test.YtbjikpplkjeaiaaDoorRows
import GoSem.ClaimSeven
namespace Go.Proofs.YtbjikpplkjeaiaaDoor
namespace Rows

/-- THE TIED CARD OF 'eyewitnesslaw09.InternSpots'. -/
def internSpotsCard : Claim7 := { stood := { row := internSpotsRow, standIns := [], harness := (true, "2e1f12fb59b67c5363d04a708dde6dec02fdcbb8bdfb18bdcf2d8739f51c7f84"), looks := false }, kinds := [], alts := [], laidByText := true, laidKinds := [.data, .pinned], laidTests := true, laidLooks := .later }
def InternSpotsCardSaid : Prop := Claim7.holds Tryd.pinned (.plain (OpenSpec.ofChange internSpotsSpec)) internSpotsCard

/-- THE TIED CARD OF 'eyewitnesslaw09.InternTells'. -/
def internTellsCard : Claim7 := { stood := { row := internTellsRow, standIns := [], harness := (true, "2e1f12fb59b67c5363d04a708dde6dec02fdcbb8bdfb18bdcf2d8739f51c7f84"), looks := false }, kinds := [], alts := [], laidByText := true, laidKinds := [.data, .pinned], laidTests := true, laidLooks := .later }
def InternTellsCardSaid : Prop := Claim7.holds Tryd.pinned (.plain (OpenSpec.ofChange internTellsSpec)) internTellsCard

/-- THE TIED CARD OF 'eyewitnesslaw09.InternBack'. -/
def internBackCard : Claim7 := { stood := { row := internBackRow, standIns := [], harness := (true, "2e1f12fb59b67c5363d04a708dde6dec02fdcbb8bdfb18bdcf2d8739f51c7f84"), looks := false }, kinds := [], alts := [], laidByText := true, laidKinds := [.data, .pinned], laidTests := true, laidLooks := .later }
def InternBackCardSaid : Prop := Claim7.holds Tryd.pinned (.plain (OpenSpec.ofChange internBackSpec)) internBackCard

/-- THE SECOND FORM's CARD OF 'eyewitnesslaw09.InternSpots'. -/
def internSpotsUptoCard : Claim7 := { stood := { row := internSpotsUptoRow, standIns := [], harness := (true, "2e1f12fb59b67c5363d04a708dde6dec02fdcbb8bdfb18bdcf2d8739f51c7f84"), looks := false }, kinds := [], alts := [], laidByText := true, laidKinds := [.data, .pinned], laidTests := true, laidLooks := .later }
def InternSpotsUptoCardSaid : Prop := Claim7.holds Tryd.pinned (.plain (OpenSpec.upto internSpotsSpec)) internSpotsUptoCard

/-- THE SECOND FORM's CARD OF 'eyewitnesslaw09.InternTells'. -/
def internTellsUptoCard : Claim7 := { stood := { row := internTellsUptoRow, standIns := [], harness := (true, "2e1f12fb59b67c5363d04a708dde6dec02fdcbb8bdfb18bdcf2d8739f51c7f84"), looks := false }, kinds := [], alts := [], laidByText := true, laidKinds := [.data, .pinned], laidTests := true, laidLooks := .later }
def InternTellsUptoCardSaid : Prop := Claim7.holds Tryd.pinned (.plain (OpenSpec.upto internTellsSpec)) internTellsUptoCard

/-- THE SECOND FORM's CARD OF 'eyewitnesslaw09.InternBack'. -/
def internBackUptoCard : Claim7 := { stood := { row := internBackUptoRow, standIns := [], harness := (true, "2e1f12fb59b67c5363d04a708dde6dec02fdcbb8bdfb18bdcf2d8739f51c7f84"), looks := false }, kinds := [], alts := [], laidByText := true, laidKinds := [.data, .pinned], laidTests := true, laidLooks := .later }
def InternBackUptoCardSaid : Prop := Claim7.holds Tryd.pinned (.plain (OpenSpec.upto internBackSpec)) internBackUptoCard
end Rows
end Go.Proofs.YtbjikpplkjeaiaaDoor
