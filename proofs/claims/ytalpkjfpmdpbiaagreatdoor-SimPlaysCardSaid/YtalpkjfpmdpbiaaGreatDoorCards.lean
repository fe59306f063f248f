/-
  DERIVED. GIVEN WITH THE SEED: THE CARDS: each row of YtalpkjfpmdpbiaaGreatDoorRows.lean that lists a variable, with what it lists TIED to the program's text (the seventh form; the later family's looks); each row that meets fmt, with fmt's text TOLD by the authors' own Lean function (tested against real Go, not proved from fmt's source: count such statements apart). THE CARD IS WHAT COUNTS. Prove the row's statement (the work); the ties are given (YtalpkjfpmdpbiaaGreatDoorTie.lean); close each card by the builder's one call (the guide's Derived/Test/ToyasCard.lean, 'card_holds'). Laid BY PROGRAM, IN A SANDBOX (cutbox-door.mjs). By AI agents, Wed Nov 11 2026. No macro, syntax, notation, axiom, sorry.
-/
import Derived.Test.YtalpkjfpmdpbiaaGreatDoorRows
import GoSem.ClaimSeven
namespace Go.Proofs.YtalpkjfpmdpbiaaGreatDoor
namespace Rows

/-- THE TIED CARD OF 'breccialaw19.SimSand'. -/
def simSandCard : Claim7 := { stood := { row := simSandRow, standIns := [], harness := (true, "449bb3c82b58f4bf690cecdc1a8a366723d9532443330858f397e60ff483ce1e"), looks := true }, kinds := [], alts := [], laidByText := true, laidKinds := [.data, .data, .data], laidTests := true, laidLooks := .later }
def SimSandCardSaid : Prop := Claim7.holds Tryz.pinned (.plain (OpenSpec.ofChange simSandSpec)) simSandCard

/-- THE TIED CARD OF 'breccialaw19.SimOccupied'. -/
def simOccupiedCard : Claim7 := { stood := { row := simOccupiedRow, standIns := [], harness := (true, "449bb3c82b58f4bf690cecdc1a8a366723d9532443330858f397e60ff483ce1e"), looks := true }, kinds := [], alts := [], laidByText := true, laidKinds := [.data, .data, .data], laidTests := true, laidLooks := .later }
def SimOccupiedCardSaid : Prop := Claim7.holds Tryz.pinned (.plain (OpenSpec.ofChange simOccupiedSpec)) simOccupiedCard

/-- THE TIED CARD OF 'breccialaw19.SimStill'. -/
def simStillCard : Claim7 := { stood := { row := simStillRow, standIns := [], harness := (true, "449bb3c82b58f4bf690cecdc1a8a366723d9532443330858f397e60ff483ce1e"), looks := true }, kinds := [], alts := [], laidByText := true, laidKinds := [.data, .data, .data], laidTests := true, laidLooks := .later }
def SimStillCardSaid : Prop := Claim7.holds Tryz.pinned (.plain (OpenSpec.ofChange simStillSpec)) simStillCard

/-- THE TIED CARD OF 'breccialaw19.SimRestores'. -/
def simRestoresCard : Claim7 := { stood := { row := simRestoresRow, standIns := [], harness := (true, "449bb3c82b58f4bf690cecdc1a8a366723d9532443330858f397e60ff483ce1e"), looks := true }, kinds := [], alts := [], laidByText := true, laidKinds := [.data, .data, .data], laidTests := true, laidLooks := .later }
def SimRestoresCardSaid : Prop := Claim7.holds Tryz.pinned (.plain (OpenSpec.ofChange simRestoresSpec)) simRestoresCard

/-- THE TIED CARD OF 'breccialaw19.SimBudgets'. -/
def simBudgetsCard : Claim7 := { stood := { row := simBudgetsRow, standIns := [], harness := (true, "449bb3c82b58f4bf690cecdc1a8a366723d9532443330858f397e60ff483ce1e"), looks := true }, kinds := [], alts := [], laidByText := true, laidKinds := [.data, .data, .data], laidTests := true, laidLooks := .later }
def SimBudgetsCardSaid : Prop := Claim7.holds Tryz.pinned (.plain (OpenSpec.ofChange simBudgetsSpec)) simBudgetsCard

/-- THE TIED CARD OF 'breccialaw19.SimPlays'. -/
def simPlaysCard : Claim7 := { stood := { row := simPlaysRow, standIns := [], harness := (true, "449bb3c82b58f4bf690cecdc1a8a366723d9532443330858f397e60ff483ce1e"), looks := true }, kinds := [], alts := [], laidByText := true, laidKinds := [.data, .data, .data], laidTests := true, laidLooks := .later }
def SimPlaysCardSaid : Prop := Claim7.holds Tryz.pinned (.plain (OpenSpec.ofChange simPlaysSpec)) simPlaysCard

/-- THE SECOND FORM's CARD OF 'breccialaw19.SimSand'. -/
def simSandUptoCard : Claim7 := { stood := { row := simSandUptoRow, standIns := [], harness := (true, "449bb3c82b58f4bf690cecdc1a8a366723d9532443330858f397e60ff483ce1e"), looks := true }, kinds := [], alts := [], laidByText := true, laidKinds := [.data, .data, .data], laidTests := true, laidLooks := .later }
def SimSandUptoCardSaid : Prop := Claim7.holds Tryz.pinned (.plain (OpenSpec.upto simSandSpec)) simSandUptoCard

/-- THE SECOND FORM's CARD OF 'breccialaw19.SimOccupied'. -/
def simOccupiedUptoCard : Claim7 := { stood := { row := simOccupiedUptoRow, standIns := [], harness := (true, "449bb3c82b58f4bf690cecdc1a8a366723d9532443330858f397e60ff483ce1e"), looks := true }, kinds := [], alts := [], laidByText := true, laidKinds := [.data, .data, .data], laidTests := true, laidLooks := .later }
def SimOccupiedUptoCardSaid : Prop := Claim7.holds Tryz.pinned (.plain (OpenSpec.upto simOccupiedSpec)) simOccupiedUptoCard

/-- THE SECOND FORM's CARD OF 'breccialaw19.SimStill'. -/
def simStillUptoCard : Claim7 := { stood := { row := simStillUptoRow, standIns := [], harness := (true, "449bb3c82b58f4bf690cecdc1a8a366723d9532443330858f397e60ff483ce1e"), looks := true }, kinds := [], alts := [], laidByText := true, laidKinds := [.data, .data, .data], laidTests := true, laidLooks := .later }
def SimStillUptoCardSaid : Prop := Claim7.holds Tryz.pinned (.plain (OpenSpec.upto simStillSpec)) simStillUptoCard

/-- THE SECOND FORM's CARD OF 'breccialaw19.SimRestores'. -/
def simRestoresUptoCard : Claim7 := { stood := { row := simRestoresUptoRow, standIns := [], harness := (true, "449bb3c82b58f4bf690cecdc1a8a366723d9532443330858f397e60ff483ce1e"), looks := true }, kinds := [], alts := [], laidByText := true, laidKinds := [.data, .data, .data], laidTests := true, laidLooks := .later }
def SimRestoresUptoCardSaid : Prop := Claim7.holds Tryz.pinned (.plain (OpenSpec.upto simRestoresSpec)) simRestoresUptoCard

/-- THE SECOND FORM's CARD OF 'breccialaw19.SimBudgets'. -/
def simBudgetsUptoCard : Claim7 := { stood := { row := simBudgetsUptoRow, standIns := [], harness := (true, "449bb3c82b58f4bf690cecdc1a8a366723d9532443330858f397e60ff483ce1e"), looks := true }, kinds := [], alts := [], laidByText := true, laidKinds := [.data, .data, .data], laidTests := true, laidLooks := .later }
def SimBudgetsUptoCardSaid : Prop := Claim7.holds Tryz.pinned (.plain (OpenSpec.upto simBudgetsSpec)) simBudgetsUptoCard

/-- THE SECOND FORM's CARD OF 'breccialaw19.SimPlays'. -/
def simPlaysUptoCard : Claim7 := { stood := { row := simPlaysUptoRow, standIns := [], harness := (true, "449bb3c82b58f4bf690cecdc1a8a366723d9532443330858f397e60ff483ce1e"), looks := true }, kinds := [], alts := [], laidByText := true, laidKinds := [.data, .data, .data], laidTests := true, laidLooks := .later }
def SimPlaysUptoCardSaid : Prop := Claim7.holds Tryz.pinned (.plain (OpenSpec.upto simPlaysSpec)) simPlaysUptoCard
end Rows
end Go.Proofs.YtalpkjfpmdpbiaaGreatDoor
