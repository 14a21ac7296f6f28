/-
  DERIVED. GIVEN WITH THE SEED: THE CARDS: each row of YtmbfilpdbolnnaaDoorRows.lean that lists a variable, with what it lists TIED to the program's text (the seventh form; the later family's looks); each row that meets fmt, with fmt's text TOLD by the authors' own Lean function (tested against real Go, not proved from fmt's source: count such statements apart). THE CARD IS WHAT COUNTS. Prove the row's statement (the work); the ties are given (YtmbfilpdbolnnaaDoorTie.lean); close each card by the builder's one call (the guide's Derived/Test/ToyasCard.lean, 'card_holds'). Laid BY PROGRAM, IN A SANDBOX (cutbox-door.mjs). By AI agents, Wed Nov 11 2026. No macro, syntax, notation, axiom, sorry.
-/
import Derived.Test.YtmbfilpdbolnnaaDoorRows
import GoSem.ClaimSeven
namespace Go.Proofs.YtmbfilpdbolnnaaDoor
namespace Rows

/-- THE TIED CARD OF 'eyewitnesslaw07.ReadTells'. -/
def readTellsCard : Claim7 := { stood := { row := readTellsRow, standIns := [], harness := (true, "79257eeeb2a1b038b281118a0db17ba61021551df8e5229161a576aa5eddb06f"), looks := false }, kinds := [], alts := [], laidByText := true, laidKinds := [.data, .pinned], laidTests := true, laidLooks := .later }
def ReadTellsCardSaid : Prop := Claim7.holds Tryd.pinned (.plain (OpenSpec.ofChange readTellsSpec)) readTellsCard

/-- THE TIED CARD OF 'eyewitnesslaw07.ReadRight'. -/
def readRightCard : Claim7 := { stood := { row := readRightRow, standIns := [], harness := (true, "79257eeeb2a1b038b281118a0db17ba61021551df8e5229161a576aa5eddb06f"), looks := false }, kinds := [], alts := [], laidByText := true, laidKinds := [.data, .pinned], laidTests := true, laidLooks := .later }
def ReadRightCardSaid : Prop := Claim7.holds Tryd.pinned (.plain (OpenSpec.ofChange readRightSpec)) readRightCard

/-- THE TIED CARD OF 'eyewitnesslaw07.ReadJoins'. -/
def readJoinsCard : Claim7 := { stood := { row := readJoinsRow, standIns := [], harness := (true, "79257eeeb2a1b038b281118a0db17ba61021551df8e5229161a576aa5eddb06f"), looks := false }, kinds := [], alts := [], laidByText := true, laidKinds := [.data, .pinned], laidTests := true, laidLooks := .later }
def ReadJoinsCardSaid : Prop := Claim7.holds Tryd.pinned (.plain (OpenSpec.ofChange readJoinsSpec)) readJoinsCard

/-- THE TIED CARD OF 'eyewitnesslaw07.ReadMany'. -/
def readManyCard : Claim7 := { stood := { row := readManyRow, standIns := [], harness := (true, "79257eeeb2a1b038b281118a0db17ba61021551df8e5229161a576aa5eddb06f"), looks := false }, kinds := [], alts := [], laidByText := true, laidKinds := [.data, .pinned], laidTests := true, laidLooks := .later }
def ReadManyCardSaid : Prop := Claim7.holds Tryd.pinned (.plain (OpenSpec.ofChange readManySpec)) readManyCard

/-- THE SECOND FORM's CARD OF 'eyewitnesslaw07.ReadTells'. -/
def readTellsUptoCard : Claim7 := { stood := { row := readTellsUptoRow, standIns := [], harness := (true, "79257eeeb2a1b038b281118a0db17ba61021551df8e5229161a576aa5eddb06f"), looks := false }, kinds := [], alts := [], laidByText := true, laidKinds := [.data, .pinned], laidTests := true, laidLooks := .later }
def ReadTellsUptoCardSaid : Prop := Claim7.holds Tryd.pinned (.plain (OpenSpec.upto readTellsSpec)) readTellsUptoCard

/-- THE SECOND FORM's CARD OF 'eyewitnesslaw07.ReadRight'. -/
def readRightUptoCard : Claim7 := { stood := { row := readRightUptoRow, standIns := [], harness := (true, "79257eeeb2a1b038b281118a0db17ba61021551df8e5229161a576aa5eddb06f"), looks := false }, kinds := [], alts := [], laidByText := true, laidKinds := [.data, .pinned], laidTests := true, laidLooks := .later }
def ReadRightUptoCardSaid : Prop := Claim7.holds Tryd.pinned (.plain (OpenSpec.upto readRightSpec)) readRightUptoCard

/-- THE SECOND FORM's CARD OF 'eyewitnesslaw07.ReadJoins'. -/
def readJoinsUptoCard : Claim7 := { stood := { row := readJoinsUptoRow, standIns := [], harness := (true, "79257eeeb2a1b038b281118a0db17ba61021551df8e5229161a576aa5eddb06f"), looks := false }, kinds := [], alts := [], laidByText := true, laidKinds := [.data, .pinned], laidTests := true, laidLooks := .later }
def ReadJoinsUptoCardSaid : Prop := Claim7.holds Tryd.pinned (.plain (OpenSpec.upto readJoinsSpec)) readJoinsUptoCard

/-- THE SECOND FORM's CARD OF 'eyewitnesslaw07.ReadMany'. -/
def readManyUptoCard : Claim7 := { stood := { row := readManyUptoRow, standIns := [], harness := (true, "79257eeeb2a1b038b281118a0db17ba61021551df8e5229161a576aa5eddb06f"), looks := false }, kinds := [], alts := [], laidByText := true, laidKinds := [.data, .pinned], laidTests := true, laidLooks := .later }
def ReadManyUptoCardSaid : Prop := Claim7.holds Tryd.pinned (.plain (OpenSpec.upto readManySpec)) readManyUptoCard
end Rows
end Go.Proofs.YtmbfilpdbolnnaaDoor
