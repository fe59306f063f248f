/-
  DERIVED. GIVEN WITH THE SEED: THE CARDS: each row of YtjcnjlaelhdjeaaGreatDoorRows.lean that lists a variable, with what it lists TIED to the program's text (the seventh form; the later family's looks); each row that meets fmt, with fmt's text TOLD by the authors' own Lean function (tested against real Go, not proved from fmt's source: count such statements apart). THE CARD IS WHAT COUNTS. Prove the row's statement (the work); the ties are given (YtjcnjlaelhdjeaaGreatDoorTie.lean); close each card by the builder's one call (the guide's Derived/Test/ToyasCard.lean, 'card_holds'). Laid BY PROGRAM, IN A SANDBOX (cutbox-door.mjs). By AI agents, Wed Nov 11 2026. No macro, syntax, notation, axiom, sorry.
-/
import Derived.Test.YtjcnjlaelhdjeaaGreatDoorRows
import GoSem.ClaimSeven
namespace Go.Proofs.YtjcnjlaelhdjeaaGreatDoor
namespace Rows

/-- THE TIED CARD OF 'brecciatop.TopCrash'. -/
def topCrashCard : Claim7 := { stood := { row := topCrashRow, standIns := [], harness := (true, "d96e912f5f54a553d5d6fa8e8c04df458143dc139c129f9c22c3a9b8a2836c2f"), looks := true }, kinds := [], alts := [], laidByText := true, laidKinds := [.data, .data, .data, .data, .pinned], laidTests := true, laidLooks := .later }
def TopCrashCardSaid : Prop := Claim7.holds Tryz.pinned (.plain (OpenSpec.ofChange topCrashSpec)) topCrashCard

/-- THE TIED CARD OF 'brecciatop.TopUnseen'. -/
def topUnseenCard : Claim7 := { stood := { row := topUnseenRow, standIns := [], harness := (true, "d96e912f5f54a553d5d6fa8e8c04df458143dc139c129f9c22c3a9b8a2836c2f"), looks := true }, kinds := [], alts := [], laidByText := true, laidKinds := [.data, .data, .data, .data, .pinned], laidTests := true, laidLooks := .later }
def TopUnseenCardSaid : Prop := Claim7.holds Tryz.pinned (.plain (OpenSpec.ofChange topUnseenSpec)) topUnseenCard

/-- THE TIED CARD OF 'breccialaw22.LinesRuns'. -/
def linesRunsCard : Claim7 := { stood := { row := linesRunsRow, standIns := [], harness := (true, "d96e912f5f54a553d5d6fa8e8c04df458143dc139c129f9c22c3a9b8a2836c2f"), looks := true }, kinds := [], alts := [], laidByText := true, laidKinds := [.data, .data, .data, .data, .pinned], laidTests := true, laidLooks := .later }
def LinesRunsCardSaid : Prop := Claim7.holds Tryz.pinned (.plain (OpenSpec.ofChange linesRunsSpec)) linesRunsCard

/-- THE TIED CARD OF 'breccialaw22.LinesWords'. -/
def linesWordsCard : Claim7 := { stood := { row := linesWordsRow, standIns := [], harness := (true, "d96e912f5f54a553d5d6fa8e8c04df458143dc139c129f9c22c3a9b8a2836c2f"), looks := true }, kinds := [], alts := [], laidByText := true, laidKinds := [.data, .data, .data, .data, .pinned], laidTests := true, laidLooks := .later }
def LinesWordsCardSaid : Prop := Claim7.holds Tryz.pinned (.plain (OpenSpec.ofChange linesWordsSpec)) linesWordsCard

/-- THE TIED CARD OF 'breccialaw22.LinesTells'. -/
def linesTellsCard : Claim7 := { stood := { row := linesTellsRow, standIns := [], harness := (true, "d96e912f5f54a553d5d6fa8e8c04df458143dc139c129f9c22c3a9b8a2836c2f"), looks := true }, kinds := [], alts := [], laidByText := true, laidKinds := [.data, .data, .data, .data, .pinned], laidTests := true, laidLooks := .later }
def LinesTellsCardSaid : Prop := Claim7.holds Tryz.pinned (.plain (OpenSpec.ofChange linesTellsSpec)) linesTellsCard

/-- THE TIED CARD OF 'breccialaw22.LinesOdd'. -/
def linesOddCard : Claim7 := { stood := { row := linesOddRow, standIns := [], harness := (true, "d96e912f5f54a553d5d6fa8e8c04df458143dc139c129f9c22c3a9b8a2836c2f"), looks := true }, kinds := [], alts := [], laidByText := true, laidKinds := [.data, .data, .data, .data, .pinned], laidTests := true, laidLooks := .later }
def LinesOddCardSaid : Prop := Claim7.holds Tryz.pinned (.plain (OpenSpec.ofChange linesOddSpec)) linesOddCard

/-- THE TIED CARD OF 'brecciatop.TopBounds'. -/
def topBoundsCard : Claim7 := { stood := { row := topBoundsRow, standIns := [], harness := (true, "d96e912f5f54a553d5d6fa8e8c04df458143dc139c129f9c22c3a9b8a2836c2f"), looks := true }, kinds := [], alts := [], laidByText := true, laidKinds := [.data, .data, .data, .data, .pinned], laidTests := true, laidLooks := .later }
def TopBoundsCardSaid : Prop := Claim7.holds Tryz.pinned (.plain (OpenSpec.ofChange topBoundsSpec)) topBoundsCard

/-- THE SECOND FORM's CARD OF 'brecciatop.TopCrash'. -/
def topCrashUptoCard : Claim7 := { stood := { row := topCrashUptoRow, standIns := [], harness := (true, "d96e912f5f54a553d5d6fa8e8c04df458143dc139c129f9c22c3a9b8a2836c2f"), looks := true }, kinds := [], alts := [], laidByText := true, laidKinds := [.data, .data, .data, .data, .pinned], laidTests := true, laidLooks := .later }
def TopCrashUptoCardSaid : Prop := Claim7.holds Tryz.pinned (.plain (OpenSpec.upto topCrashSpec)) topCrashUptoCard

/-- THE SECOND FORM's CARD OF 'brecciatop.TopUnseen'. -/
def topUnseenUptoCard : Claim7 := { stood := { row := topUnseenUptoRow, standIns := [], harness := (true, "d96e912f5f54a553d5d6fa8e8c04df458143dc139c129f9c22c3a9b8a2836c2f"), looks := true }, kinds := [], alts := [], laidByText := true, laidKinds := [.data, .data, .data, .data, .pinned], laidTests := true, laidLooks := .later }
def TopUnseenUptoCardSaid : Prop := Claim7.holds Tryz.pinned (.plain (OpenSpec.upto topUnseenSpec)) topUnseenUptoCard

/-- THE SECOND FORM's CARD OF 'breccialaw22.LinesRuns'. -/
def linesRunsUptoCard : Claim7 := { stood := { row := linesRunsUptoRow, standIns := [], harness := (true, "d96e912f5f54a553d5d6fa8e8c04df458143dc139c129f9c22c3a9b8a2836c2f"), looks := true }, kinds := [], alts := [], laidByText := true, laidKinds := [.data, .data, .data, .data, .pinned], laidTests := true, laidLooks := .later }
def LinesRunsUptoCardSaid : Prop := Claim7.holds Tryz.pinned (.plain (OpenSpec.upto linesRunsSpec)) linesRunsUptoCard

/-- THE SECOND FORM's CARD OF 'breccialaw22.LinesWords'. -/
def linesWordsUptoCard : Claim7 := { stood := { row := linesWordsUptoRow, standIns := [], harness := (true, "d96e912f5f54a553d5d6fa8e8c04df458143dc139c129f9c22c3a9b8a2836c2f"), looks := true }, kinds := [], alts := [], laidByText := true, laidKinds := [.data, .data, .data, .data, .pinned], laidTests := true, laidLooks := .later }
def LinesWordsUptoCardSaid : Prop := Claim7.holds Tryz.pinned (.plain (OpenSpec.upto linesWordsSpec)) linesWordsUptoCard

/-- THE SECOND FORM's CARD OF 'breccialaw22.LinesTells'. -/
def linesTellsUptoCard : Claim7 := { stood := { row := linesTellsUptoRow, standIns := [], harness := (true, "d96e912f5f54a553d5d6fa8e8c04df458143dc139c129f9c22c3a9b8a2836c2f"), looks := true }, kinds := [], alts := [], laidByText := true, laidKinds := [.data, .data, .data, .data, .pinned], laidTests := true, laidLooks := .later }
def LinesTellsUptoCardSaid : Prop := Claim7.holds Tryz.pinned (.plain (OpenSpec.upto linesTellsSpec)) linesTellsUptoCard

/-- THE SECOND FORM's CARD OF 'breccialaw22.LinesOdd'. -/
def linesOddUptoCard : Claim7 := { stood := { row := linesOddUptoRow, standIns := [], harness := (true, "d96e912f5f54a553d5d6fa8e8c04df458143dc139c129f9c22c3a9b8a2836c2f"), looks := true }, kinds := [], alts := [], laidByText := true, laidKinds := [.data, .data, .data, .data, .pinned], laidTests := true, laidLooks := .later }
def LinesOddUptoCardSaid : Prop := Claim7.holds Tryz.pinned (.plain (OpenSpec.upto linesOddSpec)) linesOddUptoCard

/-- THE SECOND FORM's CARD OF 'brecciatop.TopBounds'. -/
def topBoundsUptoCard : Claim7 := { stood := { row := topBoundsUptoRow, standIns := [], harness := (true, "d96e912f5f54a553d5d6fa8e8c04df458143dc139c129f9c22c3a9b8a2836c2f"), looks := true }, kinds := [], alts := [], laidByText := true, laidKinds := [.data, .data, .data, .data, .pinned], laidTests := true, laidLooks := .later }
def TopBoundsUptoCardSaid : Prop := Claim7.holds Tryz.pinned (.plain (OpenSpec.upto topBoundsSpec)) topBoundsUptoCard
end Rows
end Go.Proofs.YtjcnjlaelhdjeaaGreatDoor
