/-
  DERIVED. GIVEN WITH THE SEED: THE CARDS: each row of YtneeggikpbkkaaaDoorRows.lean that lists a variable, with what it lists TIED to the program's text (the seventh form; the later family's looks); each row that meets fmt, with fmt's text TOLD by the authors' own Lean function (tested against real Go, not proved from fmt's source: count such statements apart). THE CARD IS WHAT COUNTS. Prove the row's statement (the work); the ties are given (YtneeggikpbkkaaaDoorTie.lean); close each card by the builder's one call (the guide's Derived/Test/ToyasCard.lean, 'card_holds'). Laid BY PROGRAM, IN A SANDBOX (cutbox-door.mjs). By AI agents, Wed Nov 11 2026. No macro, syntax, notation, axiom, sorry.
-/
import Derived.Test.YtneeggikpbkkaaaDoorRows
import GoSem.ClaimSeven
namespace Go.Proofs.YtneeggikpbkkaaaDoor
namespace Rows

/-- THE TIED CARD OF 'eyewitnesslaw06.HistBack'. -/
def histBackCard : Claim7 := { stood := { row := histBackRow, standIns := [], harness := (true, "e270f49a0b44bf7cf79cd7bea9fba92f4b9231e8eba627b2f315377b89925a23"), looks := false }, kinds := [], alts := [], laidByText := true, laidKinds := [.data, .pinned], laidTests := true, laidLooks := .later }
def HistBackCardSaid : Prop := Claim7.holds Tryd.pinned (.plain (OpenSpec.ofChange histBackSpec)) histBackCard

/-- THE TIED CARD OF 'eyewitnesslaw06.HistTells'. -/
def histTellsCard : Claim7 := { stood := { row := histTellsRow, standIns := [], harness := (true, "e270f49a0b44bf7cf79cd7bea9fba92f4b9231e8eba627b2f315377b89925a23"), looks := false }, kinds := [], alts := [], laidByText := true, laidKinds := [.data, .pinned], laidTests := true, laidLooks := .later }
def HistTellsCardSaid : Prop := Claim7.holds Tryd.pinned (.plain (OpenSpec.ofChange histTellsSpec)) histTellsCard

/-- THE TIED CARD OF 'eyewitnesslaw06.HistJoins'. -/
def histJoinsCard : Claim7 := { stood := { row := histJoinsRow, standIns := [], harness := (true, "e270f49a0b44bf7cf79cd7bea9fba92f4b9231e8eba627b2f315377b89925a23"), looks := false }, kinds := [], alts := [], laidByText := true, laidKinds := [.data, .pinned], laidTests := true, laidLooks := .later }
def HistJoinsCardSaid : Prop := Claim7.holds Tryd.pinned (.plain (OpenSpec.ofChange histJoinsSpec)) histJoinsCard

/-- THE SECOND FORM's CARD OF 'eyewitnesslaw06.HistBack'. -/
def histBackUptoCard : Claim7 := { stood := { row := histBackUptoRow, standIns := [], harness := (true, "e270f49a0b44bf7cf79cd7bea9fba92f4b9231e8eba627b2f315377b89925a23"), looks := false }, kinds := [], alts := [], laidByText := true, laidKinds := [.data, .pinned], laidTests := true, laidLooks := .later }
def HistBackUptoCardSaid : Prop := Claim7.holds Tryd.pinned (.plain (OpenSpec.upto histBackSpec)) histBackUptoCard

/-- THE SECOND FORM's CARD OF 'eyewitnesslaw06.HistTells'. -/
def histTellsUptoCard : Claim7 := { stood := { row := histTellsUptoRow, standIns := [], harness := (true, "e270f49a0b44bf7cf79cd7bea9fba92f4b9231e8eba627b2f315377b89925a23"), looks := false }, kinds := [], alts := [], laidByText := true, laidKinds := [.data, .pinned], laidTests := true, laidLooks := .later }
def HistTellsUptoCardSaid : Prop := Claim7.holds Tryd.pinned (.plain (OpenSpec.upto histTellsSpec)) histTellsUptoCard

/-- THE SECOND FORM's CARD OF 'eyewitnesslaw06.HistJoins'. -/
def histJoinsUptoCard : Claim7 := { stood := { row := histJoinsUptoRow, standIns := [], harness := (true, "e270f49a0b44bf7cf79cd7bea9fba92f4b9231e8eba627b2f315377b89925a23"), looks := false }, kinds := [], alts := [], laidByText := true, laidKinds := [.data, .pinned], laidTests := true, laidLooks := .later }
def HistJoinsUptoCardSaid : Prop := Claim7.holds Tryd.pinned (.plain (OpenSpec.upto histJoinsSpec)) histJoinsUptoCard
end Rows
end Go.Proofs.YtneeggikpbkkaaaDoor
