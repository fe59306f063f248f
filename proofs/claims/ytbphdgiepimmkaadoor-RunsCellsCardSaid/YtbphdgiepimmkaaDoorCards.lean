/-
  DERIVED. GIVEN WITH THE SEED: THE CARDS: each row of YtbphdgiepimmkaaDoorRows.lean that lists a variable, with what it lists TIED to the program's text (the seventh form; the later family's looks); each row that meets fmt, with fmt's text TOLD by the authors' own Lean function (tested against real Go, not proved from fmt's source: count such statements apart). THE CARD IS WHAT COUNTS. Prove the row's statement (the work); the ties are given (YtbphdgiepimmkaaDoorTie.lean); close each card by the builder's one call (the guide's Derived/Test/ToyasCard.lean, 'card_holds'). Laid BY PROGRAM, IN A SANDBOX (cutbox-door.mjs). By AI agents, Wed Nov 11 2026. No macro, syntax, notation, axiom, sorry.
-/
import Derived.Test.YtbphdgiepimmkaaDoorRows
import GoSem.ClaimSeven
namespace Go.Proofs.YtbphdgiepimmkaaDoor
namespace Rows

/-- THE TIED CARD OF 'breccialaw06.CodeWrites'. -/
def codeWritesCard : Claim7 := { stood := { row := codeWritesRow, standIns := [], harness := (true, "e07a4b6ccc96f57774130d4f361f2790e1a310a1cc37ee521e86c836b1773e2c"), looks := false }, kinds := [], alts := [], laidByText := true, laidKinds := [.data, .data, .data], laidTests := true, laidLooks := .later }
def CodeWritesCardSaid : Prop := Claim7.holds Tryd.pinned (.plain (OpenSpec.ofChange codeWritesSpec)) codeWritesCard

/-- THE TIED CARD OF 'breccialaw06.CodeSizes'. -/
def codeSizesCard : Claim7 := { stood := { row := codeSizesRow, standIns := [], harness := (true, "e07a4b6ccc96f57774130d4f361f2790e1a310a1cc37ee521e86c836b1773e2c"), looks := false }, kinds := [], alts := [], laidByText := true, laidKinds := [.data, .data, .data], laidTests := true, laidLooks := .later }
def CodeSizesCardSaid : Prop := Claim7.holds Tryd.pinned (.plain (OpenSpec.ofChange codeSizesSpec)) codeSizesCard

/-- THE TIED CARD OF 'breccialaw06.CodeNumbers'. -/
def codeNumbersCard : Claim7 := { stood := { row := codeNumbersRow, standIns := [], harness := (true, "e07a4b6ccc96f57774130d4f361f2790e1a310a1cc37ee521e86c836b1773e2c"), looks := false }, kinds := [], alts := [], laidByText := true, laidKinds := [.data, .data, .data], laidTests := true, laidLooks := .later }
def CodeNumbersCardSaid : Prop := Claim7.holds Tryd.pinned (.plain (OpenSpec.ofChange codeNumbersSpec)) codeNumbersCard

/-- THE TIED CARD OF 'breccialaw05.RunsTwo'. -/
def runsTwoCard : Claim7 := { stood := { row := runsTwoRow, standIns := [], harness := (true, "e07a4b6ccc96f57774130d4f361f2790e1a310a1cc37ee521e86c836b1773e2c"), looks := false }, kinds := [], alts := [], laidByText := true, laidKinds := [.data, .data, .data], laidTests := true, laidLooks := .later }
def RunsTwoCardSaid : Prop := Claim7.holds Tryd.pinned (.plain (OpenSpec.ofChange runsTwoSpec)) runsTwoCard

/-- THE TIED CARD OF 'breccialaw05.RunsMay'. -/
def runsMayCard : Claim7 := { stood := { row := runsMayRow, standIns := [], harness := (true, "e07a4b6ccc96f57774130d4f361f2790e1a310a1cc37ee521e86c836b1773e2c"), looks := false }, kinds := [], alts := [], laidByText := true, laidKinds := [.data, .data, .data], laidTests := true, laidLooks := .later }
def RunsMayCardSaid : Prop := Claim7.holds Tryd.pinned (.plain (OpenSpec.ofChange runsMaySpec)) runsMayCard

/-- THE TIED CARD OF 'breccialaw05.RunsFill'. -/
def runsFillCard : Claim7 := { stood := { row := runsFillRow, standIns := [], harness := (true, "e07a4b6ccc96f57774130d4f361f2790e1a310a1cc37ee521e86c836b1773e2c"), looks := false }, kinds := [], alts := [], laidByText := true, laidKinds := [.data, .data, .data], laidTests := true, laidLooks := .later }
def RunsFillCardSaid : Prop := Claim7.holds Tryd.pinned (.plain (OpenSpec.ofChange runsFillSpec)) runsFillCard

/-- THE TIED CARD OF 'breccialaw05.RunsBack'. -/
def runsBackCard : Claim7 := { stood := { row := runsBackRow, standIns := [], harness := (true, "e07a4b6ccc96f57774130d4f361f2790e1a310a1cc37ee521e86c836b1773e2c"), looks := false }, kinds := [], alts := [], laidByText := true, laidKinds := [.data, .data, .data], laidTests := true, laidLooks := .later }
def RunsBackCardSaid : Prop := Claim7.holds Tryd.pinned (.plain (OpenSpec.ofChange runsBackSpec)) runsBackCard

/-- THE TIED CARD OF 'breccialaw05.RunsSet'. -/
def runsSetCard : Claim7 := { stood := { row := runsSetRow, standIns := [], harness := (true, "e07a4b6ccc96f57774130d4f361f2790e1a310a1cc37ee521e86c836b1773e2c"), looks := false }, kinds := [], alts := [], laidByText := true, laidKinds := [.data, .data, .data], laidTests := true, laidLooks := .later }
def RunsSetCardSaid : Prop := Claim7.holds Tryd.pinned (.plain (OpenSpec.ofChange runsSetSpec)) runsSetCard

/-- THE TIED CARD OF 'breccialaw05.RunsMake'. -/
def runsMakeCard : Claim7 := { stood := { row := runsMakeRow, standIns := [], harness := (true, "e07a4b6ccc96f57774130d4f361f2790e1a310a1cc37ee521e86c836b1773e2c"), looks := false }, kinds := [], alts := [], laidByText := true, laidKinds := [.data, .data, .data], laidTests := true, laidLooks := .later }
def RunsMakeCardSaid : Prop := Claim7.holds Tryd.pinned (.plain (OpenSpec.ofChange runsMakeSpec)) runsMakeCard

/-- THE TIED CARD OF 'breccialaw05.RunsCells'. -/
def runsCellsCard : Claim7 := { stood := { row := runsCellsRow, standIns := [], harness := (true, "e07a4b6ccc96f57774130d4f361f2790e1a310a1cc37ee521e86c836b1773e2c"), looks := false }, kinds := [], alts := [], laidByText := true, laidKinds := [.data, .data, .data], laidTests := true, laidLooks := .later }
def RunsCellsCardSaid : Prop := Claim7.holds Tryd.pinned (.plain (OpenSpec.ofChange runsCellsSpec)) runsCellsCard

/-- THE TIED CARD OF 'breccialaw06.CodeRound'. -/
def codeRoundCard : Claim7 := { stood := { row := codeRoundRow, standIns := [], harness := (true, "e07a4b6ccc96f57774130d4f361f2790e1a310a1cc37ee521e86c836b1773e2c"), looks := false }, kinds := [], alts := [], laidByText := true, laidKinds := [.data, .data, .data], laidTests := true, laidLooks := .later }
def CodeRoundCardSaid : Prop := Claim7.holds Tryd.pinned (.plain (OpenSpec.ofChange codeRoundSpec)) codeRoundCard

/-- THE TIED CARD OF 'breccialaw06.CodeReads'. -/
def codeReadsCard : Claim7 := { stood := { row := codeReadsRow, standIns := [], harness := (true, "e07a4b6ccc96f57774130d4f361f2790e1a310a1cc37ee521e86c836b1773e2c"), looks := false }, kinds := [], alts := [], laidByText := true, laidKinds := [.data, .data, .data], laidTests := true, laidLooks := .later }
def CodeReadsCardSaid : Prop := Claim7.holds Tryd.pinned (.plain (OpenSpec.ofChange codeReadsSpec)) codeReadsCard

/-- THE TIED CARD OF 'breccialaw06.CodeAgain'. -/
def codeAgainCard : Claim7 := { stood := { row := codeAgainRow, standIns := [], harness := (true, "e07a4b6ccc96f57774130d4f361f2790e1a310a1cc37ee521e86c836b1773e2c"), looks := false }, kinds := [], alts := [], laidByText := true, laidKinds := [.data, .data, .data], laidTests := true, laidLooks := .later }
def CodeAgainCardSaid : Prop := Claim7.holds Tryd.pinned (.plain (OpenSpec.ofChange codeAgainSpec)) codeAgainCard

/-- THE SECOND FORM's CARD OF 'breccialaw06.CodeWrites'. -/
def codeWritesUptoCard : Claim7 := { stood := { row := codeWritesUptoRow, standIns := [], harness := (true, "e07a4b6ccc96f57774130d4f361f2790e1a310a1cc37ee521e86c836b1773e2c"), looks := false }, kinds := [], alts := [], laidByText := true, laidKinds := [.data, .data, .data], laidTests := true, laidLooks := .later }
def CodeWritesUptoCardSaid : Prop := Claim7.holds Tryd.pinned (.plain (OpenSpec.upto codeWritesSpec)) codeWritesUptoCard

/-- THE SECOND FORM's CARD OF 'breccialaw06.CodeSizes'. -/
def codeSizesUptoCard : Claim7 := { stood := { row := codeSizesUptoRow, standIns := [], harness := (true, "e07a4b6ccc96f57774130d4f361f2790e1a310a1cc37ee521e86c836b1773e2c"), looks := false }, kinds := [], alts := [], laidByText := true, laidKinds := [.data, .data, .data], laidTests := true, laidLooks := .later }
def CodeSizesUptoCardSaid : Prop := Claim7.holds Tryd.pinned (.plain (OpenSpec.upto codeSizesSpec)) codeSizesUptoCard

/-- THE SECOND FORM's CARD OF 'breccialaw06.CodeNumbers'. -/
def codeNumbersUptoCard : Claim7 := { stood := { row := codeNumbersUptoRow, standIns := [], harness := (true, "e07a4b6ccc96f57774130d4f361f2790e1a310a1cc37ee521e86c836b1773e2c"), looks := false }, kinds := [], alts := [], laidByText := true, laidKinds := [.data, .data, .data], laidTests := true, laidLooks := .later }
def CodeNumbersUptoCardSaid : Prop := Claim7.holds Tryd.pinned (.plain (OpenSpec.upto codeNumbersSpec)) codeNumbersUptoCard

/-- THE SECOND FORM's CARD OF 'breccialaw05.RunsTwo'. -/
def runsTwoUptoCard : Claim7 := { stood := { row := runsTwoUptoRow, standIns := [], harness := (true, "e07a4b6ccc96f57774130d4f361f2790e1a310a1cc37ee521e86c836b1773e2c"), looks := false }, kinds := [], alts := [], laidByText := true, laidKinds := [.data, .data, .data], laidTests := true, laidLooks := .later }
def RunsTwoUptoCardSaid : Prop := Claim7.holds Tryd.pinned (.plain (OpenSpec.upto runsTwoSpec)) runsTwoUptoCard

/-- THE SECOND FORM's CARD OF 'breccialaw05.RunsMay'. -/
def runsMayUptoCard : Claim7 := { stood := { row := runsMayUptoRow, standIns := [], harness := (true, "e07a4b6ccc96f57774130d4f361f2790e1a310a1cc37ee521e86c836b1773e2c"), looks := false }, kinds := [], alts := [], laidByText := true, laidKinds := [.data, .data, .data], laidTests := true, laidLooks := .later }
def RunsMayUptoCardSaid : Prop := Claim7.holds Tryd.pinned (.plain (OpenSpec.upto runsMaySpec)) runsMayUptoCard

/-- THE SECOND FORM's CARD OF 'breccialaw05.RunsFill'. -/
def runsFillUptoCard : Claim7 := { stood := { row := runsFillUptoRow, standIns := [], harness := (true, "e07a4b6ccc96f57774130d4f361f2790e1a310a1cc37ee521e86c836b1773e2c"), looks := false }, kinds := [], alts := [], laidByText := true, laidKinds := [.data, .data, .data], laidTests := true, laidLooks := .later }
def RunsFillUptoCardSaid : Prop := Claim7.holds Tryd.pinned (.plain (OpenSpec.upto runsFillSpec)) runsFillUptoCard

/-- THE SECOND FORM's CARD OF 'breccialaw05.RunsBack'. -/
def runsBackUptoCard : Claim7 := { stood := { row := runsBackUptoRow, standIns := [], harness := (true, "e07a4b6ccc96f57774130d4f361f2790e1a310a1cc37ee521e86c836b1773e2c"), looks := false }, kinds := [], alts := [], laidByText := true, laidKinds := [.data, .data, .data], laidTests := true, laidLooks := .later }
def RunsBackUptoCardSaid : Prop := Claim7.holds Tryd.pinned (.plain (OpenSpec.upto runsBackSpec)) runsBackUptoCard

/-- THE SECOND FORM's CARD OF 'breccialaw05.RunsSet'. -/
def runsSetUptoCard : Claim7 := { stood := { row := runsSetUptoRow, standIns := [], harness := (true, "e07a4b6ccc96f57774130d4f361f2790e1a310a1cc37ee521e86c836b1773e2c"), looks := false }, kinds := [], alts := [], laidByText := true, laidKinds := [.data, .data, .data], laidTests := true, laidLooks := .later }
def RunsSetUptoCardSaid : Prop := Claim7.holds Tryd.pinned (.plain (OpenSpec.upto runsSetSpec)) runsSetUptoCard

/-- THE SECOND FORM's CARD OF 'breccialaw05.RunsMake'. -/
def runsMakeUptoCard : Claim7 := { stood := { row := runsMakeUptoRow, standIns := [], harness := (true, "e07a4b6ccc96f57774130d4f361f2790e1a310a1cc37ee521e86c836b1773e2c"), looks := false }, kinds := [], alts := [], laidByText := true, laidKinds := [.data, .data, .data], laidTests := true, laidLooks := .later }
def RunsMakeUptoCardSaid : Prop := Claim7.holds Tryd.pinned (.plain (OpenSpec.upto runsMakeSpec)) runsMakeUptoCard

/-- THE SECOND FORM's CARD OF 'breccialaw05.RunsCells'. -/
def runsCellsUptoCard : Claim7 := { stood := { row := runsCellsUptoRow, standIns := [], harness := (true, "e07a4b6ccc96f57774130d4f361f2790e1a310a1cc37ee521e86c836b1773e2c"), looks := false }, kinds := [], alts := [], laidByText := true, laidKinds := [.data, .data, .data], laidTests := true, laidLooks := .later }
def RunsCellsUptoCardSaid : Prop := Claim7.holds Tryd.pinned (.plain (OpenSpec.upto runsCellsSpec)) runsCellsUptoCard

/-- THE SECOND FORM's CARD OF 'breccialaw06.CodeRound'. -/
def codeRoundUptoCard : Claim7 := { stood := { row := codeRoundUptoRow, standIns := [], harness := (true, "e07a4b6ccc96f57774130d4f361f2790e1a310a1cc37ee521e86c836b1773e2c"), looks := false }, kinds := [], alts := [], laidByText := true, laidKinds := [.data, .data, .data], laidTests := true, laidLooks := .later }
def CodeRoundUptoCardSaid : Prop := Claim7.holds Tryd.pinned (.plain (OpenSpec.upto codeRoundSpec)) codeRoundUptoCard

/-- THE SECOND FORM's CARD OF 'breccialaw06.CodeReads'. -/
def codeReadsUptoCard : Claim7 := { stood := { row := codeReadsUptoRow, standIns := [], harness := (true, "e07a4b6ccc96f57774130d4f361f2790e1a310a1cc37ee521e86c836b1773e2c"), looks := false }, kinds := [], alts := [], laidByText := true, laidKinds := [.data, .data, .data], laidTests := true, laidLooks := .later }
def CodeReadsUptoCardSaid : Prop := Claim7.holds Tryd.pinned (.plain (OpenSpec.upto codeReadsSpec)) codeReadsUptoCard

/-- THE SECOND FORM's CARD OF 'breccialaw06.CodeAgain'. -/
def codeAgainUptoCard : Claim7 := { stood := { row := codeAgainUptoRow, standIns := [], harness := (true, "e07a4b6ccc96f57774130d4f361f2790e1a310a1cc37ee521e86c836b1773e2c"), looks := false }, kinds := [], alts := [], laidByText := true, laidKinds := [.data, .data, .data], laidTests := true, laidLooks := .later }
def CodeAgainUptoCardSaid : Prop := Claim7.holds Tryd.pinned (.plain (OpenSpec.upto codeAgainSpec)) codeAgainUptoCard
end Rows
end Go.Proofs.YtbphdgiepimmkaaDoor
