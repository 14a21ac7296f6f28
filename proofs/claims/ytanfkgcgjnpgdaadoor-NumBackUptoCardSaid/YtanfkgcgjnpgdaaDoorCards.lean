/-
  DERIVED. GIVEN WITH THE SEED: THE CARDS: each row of YtanfkgcgjnpgdaaDoorRows.lean that lists a variable, with what it lists TIED to the program's text (the seventh form; the later family's looks); each row that meets fmt, with fmt's text TOLD by the authors' own Lean function (tested against real Go, not proved from fmt's source: count such statements apart). THE CARD IS WHAT COUNTS. Prove the row's statement (the work); the ties are given (YtanfkgcgjnpgdaaDoorTie.lean); close each card by the builder's one call (the guide's Derived/Test/ToyasCard.lean, 'card_holds'). Laid BY PROGRAM, IN A SANDBOX (cutbox-door.mjs). By AI agents, Wed Nov 11 2026. No macro, syntax, notation, axiom, sorry.
-/
import Derived.Test.YtanfkgcgjnpgdaaDoorRows
import GoSem.ClaimSeven
namespace Go.Proofs.YtanfkgcgjnpgdaaDoor
namespace Rows

/-- THE TIED CARD OF 'eyewitnesslaw05.NumTells'. -/
def numTellsCard : Claim7 := { stood := { row := numTellsRow, standIns := [], harness := (true, "e20ccbcd384f5b3c3d52296bd34e9576748fcd7618e8c565b1a3d5191183b617"), looks := false }, kinds := [], alts := [], laidByText := true, laidKinds := [.data, .data, .data, .data, .pinned], laidTests := true, laidLooks := .later }
def NumTellsCardSaid : Prop := Claim7.holds Tryd.pinned (.plain (OpenSpec.ofChange numTellsSpec)) numTellsCard

/-- THE TIED CARD OF 'eyewitnesslaw05.NumBack'. -/
def numBackCard : Claim7 := { stood := { row := numBackRow, standIns := [], harness := (true, "e20ccbcd384f5b3c3d52296bd34e9576748fcd7618e8c565b1a3d5191183b617"), looks := false }, kinds := [], alts := [], laidByText := true, laidKinds := [.data, .data, .data, .data, .pinned], laidTests := true, laidLooks := .later }
def NumBackCardSaid : Prop := Claim7.holds Tryd.pinned (.plain (OpenSpec.ofChange numBackSpec)) numBackCard

/-- THE TIED CARD OF 'eyewitnesslaw05.NumSpans'. -/
def numSpansCard : Claim7 := { stood := { row := numSpansRow, standIns := [], harness := (true, "e20ccbcd384f5b3c3d52296bd34e9576748fcd7618e8c565b1a3d5191183b617"), looks := false }, kinds := [], alts := [], laidByText := true, laidKinds := [.data, .data, .data, .data, .pinned], laidTests := true, laidLooks := .later }
def NumSpansCardSaid : Prop := Claim7.holds Tryd.pinned (.plain (OpenSpec.ofChange numSpansSpec)) numSpansCard

/-- THE SECOND FORM's CARD OF 'eyewitnesslaw05.NumTells'. -/
def numTellsUptoCard : Claim7 := { stood := { row := numTellsUptoRow, standIns := [], harness := (true, "e20ccbcd384f5b3c3d52296bd34e9576748fcd7618e8c565b1a3d5191183b617"), looks := false }, kinds := [], alts := [], laidByText := true, laidKinds := [.data, .data, .data, .data, .pinned], laidTests := true, laidLooks := .later }
def NumTellsUptoCardSaid : Prop := Claim7.holds Tryd.pinned (.plain (OpenSpec.upto numTellsSpec)) numTellsUptoCard

/-- THE SECOND FORM's CARD OF 'eyewitnesslaw05.NumBack'. -/
def numBackUptoCard : Claim7 := { stood := { row := numBackUptoRow, standIns := [], harness := (true, "e20ccbcd384f5b3c3d52296bd34e9576748fcd7618e8c565b1a3d5191183b617"), looks := false }, kinds := [], alts := [], laidByText := true, laidKinds := [.data, .data, .data, .data, .pinned], laidTests := true, laidLooks := .later }
def NumBackUptoCardSaid : Prop := Claim7.holds Tryd.pinned (.plain (OpenSpec.upto numBackSpec)) numBackUptoCard

/-- THE SECOND FORM's CARD OF 'eyewitnesslaw05.NumSpans'. -/
def numSpansUptoCard : Claim7 := { stood := { row := numSpansUptoRow, standIns := [], harness := (true, "e20ccbcd384f5b3c3d52296bd34e9576748fcd7618e8c565b1a3d5191183b617"), looks := false }, kinds := [], alts := [], laidByText := true, laidKinds := [.data, .data, .data, .data, .pinned], laidTests := true, laidLooks := .later }
def NumSpansUptoCardSaid : Prop := Claim7.holds Tryd.pinned (.plain (OpenSpec.upto numSpansSpec)) numSpansUptoCard
end Rows
end Go.Proofs.YtanfkgcgjnpgdaaDoor
