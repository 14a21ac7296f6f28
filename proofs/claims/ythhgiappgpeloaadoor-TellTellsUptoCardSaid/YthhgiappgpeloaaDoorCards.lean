/-
  DERIVED. GIVEN WITH THE SEED: THE CARDS: each row of YthhgiappgpeloaaDoorRows.lean that lists a variable, with what it lists TIED to the program's text (the seventh form; the later family's looks); each row that meets fmt, with fmt's text TOLD by the authors' own Lean function (tested against real Go, not proved from fmt's source: count such statements apart). THE CARD IS WHAT COUNTS. Prove the row's statement (the work); the ties are given (YthhgiappgpeloaaDoorTie.lean); close each card by the builder's one call (the guide's Derived/Test/ToyasCard.lean, 'card_holds'). Laid BY PROGRAM, IN A SANDBOX (cutbox-door.mjs). By AI agents, Wed Nov 11 2026. No macro, syntax, notation, axiom, sorry.
-/
import Derived.Test.YthhgiappgpeloaaDoorRows
import GoSem.ClaimSeven
namespace Go.Proofs.YthhgiappgpeloaaDoor
namespace Rows

/-- THE TIED CARD OF 'eyewitnesslaw26.TellTells'. -/
def tellTellsCard : Claim7 := { stood := { row := tellTellsRow, standIns := [], harness := (true, "a3f8d47fc34090981718c7d820877d94ed5500b854d0bc85d0a50f281a6e16b5"), looks := false }, kinds := [], alts := [], laidByText := true, laidKinds := [.data, .data, .data], laidTests := true, laidLooks := .later }
def TellTellsCardSaid : Prop := Claim7.holds Tryd.pinned (.plain (OpenSpec.ofChange tellTellsSpec)) tellTellsCard

/-- THE TIED CARD OF 'eyewitnesslaw26.TellUnlike'. -/
def tellUnlikeCard : Claim7 := { stood := { row := tellUnlikeRow, standIns := [], harness := (true, "a3f8d47fc34090981718c7d820877d94ed5500b854d0bc85d0a50f281a6e16b5"), looks := false }, kinds := [], alts := [], laidByText := true, laidKinds := [.data, .data, .data], laidTests := true, laidLooks := .later }
def TellUnlikeCardSaid : Prop := Claim7.holds Tryd.pinned (.plain (OpenSpec.ofChange tellUnlikeSpec)) tellUnlikeCard

/-- THE TIED CARD OF 'eyewitnesslaw26.TellLines'. -/
def tellLinesCard : Claim7 := { stood := { row := tellLinesRow, standIns := [], harness := (true, "a3f8d47fc34090981718c7d820877d94ed5500b854d0bc85d0a50f281a6e16b5"), looks := false }, kinds := [], alts := [], laidByText := true, laidKinds := [.data, .data, .data], laidTests := true, laidLooks := .later }
def TellLinesCardSaid : Prop := Claim7.holds Tryd.pinned (.plain (OpenSpec.ofChange tellLinesSpec)) tellLinesCard

/-- THE TIED CARD OF 'eyewitnesslaw08.ShowTells'. -/
def showTellsCard : Claim7 := { stood := { row := showTellsRow, standIns := [], harness := (true, "a3f8d47fc34090981718c7d820877d94ed5500b854d0bc85d0a50f281a6e16b5"), looks := false }, kinds := [], alts := [], laidByText := true, laidKinds := [.data, .data, .data, .data, .pinned], laidTests := true, laidLooks := .later }
def ShowTellsCardSaid : Prop := Claim7.holds Tryd.pinned (.plain (OpenSpec.ofChange showTellsSpec)) showTellsCard

/-- THE TIED CARD OF 'eyewitnesslaw08.ShowBack'. -/
def showBackCard : Claim7 := { stood := { row := showBackRow, standIns := [], harness := (true, "a3f8d47fc34090981718c7d820877d94ed5500b854d0bc85d0a50f281a6e16b5"), looks := false }, kinds := [], alts := [], laidByText := true, laidKinds := [.data, .data, .data, .data, .pinned], laidTests := true, laidLooks := .later }
def ShowBackCardSaid : Prop := Claim7.holds Tryd.pinned (.plain (OpenSpec.ofChange showBackSpec)) showBackCard

/-- THE TIED CARD OF 'eyewitnesslaw08.ShowJoins'. -/
def showJoinsCard : Claim7 := { stood := { row := showJoinsRow, standIns := [], harness := (true, "a3f8d47fc34090981718c7d820877d94ed5500b854d0bc85d0a50f281a6e16b5"), looks := false }, kinds := [], alts := [], laidByText := true, laidKinds := [.data, .data, .data, .data, .pinned], laidTests := true, laidLooks := .later }
def ShowJoinsCardSaid : Prop := Claim7.holds Tryd.pinned (.plain (OpenSpec.ofChange showJoinsSpec)) showJoinsCard

/-- THE SECOND FORM's CARD OF 'eyewitnesslaw26.TellTells'. -/
def tellTellsUptoCard : Claim7 := { stood := { row := tellTellsUptoRow, standIns := [], harness := (true, "a3f8d47fc34090981718c7d820877d94ed5500b854d0bc85d0a50f281a6e16b5"), looks := false }, kinds := [], alts := [], laidByText := true, laidKinds := [.data, .data, .data], laidTests := true, laidLooks := .later }
def TellTellsUptoCardSaid : Prop := Claim7.holds Tryd.pinned (.plain (OpenSpec.upto tellTellsSpec)) tellTellsUptoCard

/-- THE SECOND FORM's CARD OF 'eyewitnesslaw26.TellUnlike'. -/
def tellUnlikeUptoCard : Claim7 := { stood := { row := tellUnlikeUptoRow, standIns := [], harness := (true, "a3f8d47fc34090981718c7d820877d94ed5500b854d0bc85d0a50f281a6e16b5"), looks := false }, kinds := [], alts := [], laidByText := true, laidKinds := [.data, .data, .data], laidTests := true, laidLooks := .later }
def TellUnlikeUptoCardSaid : Prop := Claim7.holds Tryd.pinned (.plain (OpenSpec.upto tellUnlikeSpec)) tellUnlikeUptoCard

/-- THE SECOND FORM's CARD OF 'eyewitnesslaw26.TellLines'. -/
def tellLinesUptoCard : Claim7 := { stood := { row := tellLinesUptoRow, standIns := [], harness := (true, "a3f8d47fc34090981718c7d820877d94ed5500b854d0bc85d0a50f281a6e16b5"), looks := false }, kinds := [], alts := [], laidByText := true, laidKinds := [.data, .data, .data], laidTests := true, laidLooks := .later }
def TellLinesUptoCardSaid : Prop := Claim7.holds Tryd.pinned (.plain (OpenSpec.upto tellLinesSpec)) tellLinesUptoCard

/-- THE SECOND FORM's CARD OF 'eyewitnesslaw08.ShowTells'. -/
def showTellsUptoCard : Claim7 := { stood := { row := showTellsUptoRow, standIns := [], harness := (true, "a3f8d47fc34090981718c7d820877d94ed5500b854d0bc85d0a50f281a6e16b5"), looks := false }, kinds := [], alts := [], laidByText := true, laidKinds := [.data, .data, .data, .data, .pinned], laidTests := true, laidLooks := .later }
def ShowTellsUptoCardSaid : Prop := Claim7.holds Tryd.pinned (.plain (OpenSpec.upto showTellsSpec)) showTellsUptoCard

/-- THE SECOND FORM's CARD OF 'eyewitnesslaw08.ShowBack'. -/
def showBackUptoCard : Claim7 := { stood := { row := showBackUptoRow, standIns := [], harness := (true, "a3f8d47fc34090981718c7d820877d94ed5500b854d0bc85d0a50f281a6e16b5"), looks := false }, kinds := [], alts := [], laidByText := true, laidKinds := [.data, .data, .data, .data, .pinned], laidTests := true, laidLooks := .later }
def ShowBackUptoCardSaid : Prop := Claim7.holds Tryd.pinned (.plain (OpenSpec.upto showBackSpec)) showBackUptoCard

/-- THE SECOND FORM's CARD OF 'eyewitnesslaw08.ShowJoins'. -/
def showJoinsUptoCard : Claim7 := { stood := { row := showJoinsUptoRow, standIns := [], harness := (true, "a3f8d47fc34090981718c7d820877d94ed5500b854d0bc85d0a50f281a6e16b5"), looks := false }, kinds := [], alts := [], laidByText := true, laidKinds := [.data, .data, .data, .data, .pinned], laidTests := true, laidLooks := .later }
def ShowJoinsUptoCardSaid : Prop := Claim7.holds Tryd.pinned (.plain (OpenSpec.upto showJoinsSpec)) showJoinsUptoCard
end Rows
end Go.Proofs.YthhgiappgpeloaaDoor
