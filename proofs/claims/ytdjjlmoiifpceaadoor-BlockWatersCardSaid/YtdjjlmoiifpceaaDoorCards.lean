/-
  DERIVED. GIVEN WITH THE SEED: THE CARDS: each row of YtdjjlmoiifpceaaDoorRows.lean that lists a variable, with what it lists TIED to the program's text (the seventh form; the later family's looks); each row that meets fmt, with fmt's text TOLD by the authors' own Lean function (tested against real Go, not proved from fmt's source: count such statements apart). THE CARD IS WHAT COUNTS. Prove the row's statement (the work); the ties are given (YtdjjlmoiifpceaaDoorTie.lean); close each card by the builder's one call (the guide's Derived/Test/ToyasCard.lean, 'card_holds'). Laid BY PROGRAM, IN A SANDBOX (cutbox-door.mjs). By AI agents, Wed Nov 11 2026. No macro, syntax, notation, axiom, sorry.
-/
import Derived.Test.YtdjjlmoiifpceaaDoorRows
import GoSem.ClaimSeven
namespace Go.Proofs.YtdjjlmoiifpceaaDoor
namespace Rows

/-- THE TIED CARD OF 'breccialaw04.BlockNames'. -/
def blockNamesCard : Claim7 := { stood := { row := blockNamesRow, standIns := [], harness := (true, "ad5f295b95e6b8089c463b45de6279576eaad30c19649ebc82c19a4a28ba9f4a"), looks := false }, kinds := [], alts := [], laidByText := true, laidKinds := [.data, .data, .data], laidTests := true, laidLooks := .later }
def BlockNamesCardSaid : Prop := Claim7.holds Tryd.pinned (.plain (OpenSpec.ofChange blockNamesSpec)) blockNamesCard

/-- THE TIED CARD OF 'breccialaw04.BlockWords'. -/
def blockWordsCard : Claim7 := { stood := { row := blockWordsRow, standIns := [], harness := (true, "ad5f295b95e6b8089c463b45de6279576eaad30c19649ebc82c19a4a28ba9f4a"), looks := false }, kinds := [], alts := [], laidByText := true, laidKinds := [.data, .data, .data], laidTests := true, laidLooks := .later }
def BlockWordsCardSaid : Prop := Claim7.holds Tryd.pinned (.plain (OpenSpec.ofChange blockWordsSpec)) blockWordsCard

/-- THE TIED CARD OF 'breccialaw04.BlockWaters'. -/
def blockWatersCard : Claim7 := { stood := { row := blockWatersRow, standIns := [], harness := (true, "ad5f295b95e6b8089c463b45de6279576eaad30c19649ebc82c19a4a28ba9f4a"), looks := false }, kinds := [], alts := [], laidByText := true, laidKinds := [.data, .data, .data], laidTests := true, laidLooks := .later }
def BlockWatersCardSaid : Prop := Claim7.holds Tryd.pinned (.plain (OpenSpec.ofChange blockWatersSpec)) blockWatersCard

/-- THE TIED CARD OF 'breccialaw04.BlockKinds'. -/
def blockKindsCard : Claim7 := { stood := { row := blockKindsRow, standIns := [], harness := (true, "ad5f295b95e6b8089c463b45de6279576eaad30c19649ebc82c19a4a28ba9f4a"), looks := false }, kinds := [], alts := [], laidByText := true, laidKinds := [.data, .data, .data], laidTests := true, laidLooks := .later }
def BlockKindsCardSaid : Prop := Claim7.holds Tryd.pinned (.plain (OpenSpec.ofChange blockKindsSpec)) blockKindsCard

/-- THE SECOND FORM's CARD OF 'breccialaw04.BlockNames'. -/
def blockNamesUptoCard : Claim7 := { stood := { row := blockNamesUptoRow, standIns := [], harness := (true, "ad5f295b95e6b8089c463b45de6279576eaad30c19649ebc82c19a4a28ba9f4a"), looks := false }, kinds := [], alts := [], laidByText := true, laidKinds := [.data, .data, .data], laidTests := true, laidLooks := .later }
def BlockNamesUptoCardSaid : Prop := Claim7.holds Tryd.pinned (.plain (OpenSpec.upto blockNamesSpec)) blockNamesUptoCard

/-- THE SECOND FORM's CARD OF 'breccialaw04.BlockWords'. -/
def blockWordsUptoCard : Claim7 := { stood := { row := blockWordsUptoRow, standIns := [], harness := (true, "ad5f295b95e6b8089c463b45de6279576eaad30c19649ebc82c19a4a28ba9f4a"), looks := false }, kinds := [], alts := [], laidByText := true, laidKinds := [.data, .data, .data], laidTests := true, laidLooks := .later }
def BlockWordsUptoCardSaid : Prop := Claim7.holds Tryd.pinned (.plain (OpenSpec.upto blockWordsSpec)) blockWordsUptoCard

/-- THE SECOND FORM's CARD OF 'breccialaw04.BlockWaters'. -/
def blockWatersUptoCard : Claim7 := { stood := { row := blockWatersUptoRow, standIns := [], harness := (true, "ad5f295b95e6b8089c463b45de6279576eaad30c19649ebc82c19a4a28ba9f4a"), looks := false }, kinds := [], alts := [], laidByText := true, laidKinds := [.data, .data, .data], laidTests := true, laidLooks := .later }
def BlockWatersUptoCardSaid : Prop := Claim7.holds Tryd.pinned (.plain (OpenSpec.upto blockWatersSpec)) blockWatersUptoCard

/-- THE SECOND FORM's CARD OF 'breccialaw04.BlockKinds'. -/
def blockKindsUptoCard : Claim7 := { stood := { row := blockKindsUptoRow, standIns := [], harness := (true, "ad5f295b95e6b8089c463b45de6279576eaad30c19649ebc82c19a4a28ba9f4a"), looks := false }, kinds := [], alts := [], laidByText := true, laidKinds := [.data, .data, .data], laidTests := true, laidLooks := .later }
def BlockKindsUptoCardSaid : Prop := Claim7.holds Tryd.pinned (.plain (OpenSpec.upto blockKindsSpec)) blockKindsUptoCard
end Rows
end Go.Proofs.YtdjjlmoiifpceaaDoor
