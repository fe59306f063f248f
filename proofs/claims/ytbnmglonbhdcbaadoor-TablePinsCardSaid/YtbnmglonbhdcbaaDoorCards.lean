/-
  DERIVED. GIVEN WITH THE SEED: THE CARDS: each row of YtbnmglonbhdcbaaDoorRows.lean that lists a variable, with what it lists TIED to the program's text (the seventh form; the later family's looks); each row that meets fmt, with fmt's text TOLD by the authors' own Lean function (tested against real Go, not proved from fmt's source: count such statements apart). THE CARD IS WHAT COUNTS. Prove the row's statement (the work); the ties are given (YtbnmglonbhdcbaaDoorTie.lean); close each card by the builder's one call (the guide's Derived/Test/ToyasCard.lean, 'card_holds'). Laid BY PROGRAM, IN A SANDBOX (cutbox-door.mjs). By AI agents, Wed Nov 11 2026. No macro, syntax, notation, axiom, sorry.
-/
import Derived.Test.YtbnmglonbhdcbaaDoorRows
import GoSem.ClaimSeven
namespace Go.Proofs.YtbnmglonbhdcbaaDoor
namespace Rows

/-- THE TIED CARD OF 'breccialaw12.TableIds'. -/
def tableIdsCard : Claim7 := { stood := { row := tableIdsRow, standIns := [], harness := (true, "675c711ba8eedd7ba53ebf02b443ac7e17889c307561403d8118d8dfd6959814"), looks := true }, kinds := [], alts := [], laidByText := true, laidKinds := [.data, .data, .data], laidTests := true, laidLooks := .later }
def TableIdsCardSaid : Prop := Claim7.holds Tryd.pinned (.plain (OpenSpec.ofChange tableIdsSpec)) tableIdsCard

/-- THE TIED CARD OF 'breccialaw12.TableRow'. -/
def tableRowCard : Claim7 := { stood := { row := tableRowRow, standIns := [], harness := (true, "675c711ba8eedd7ba53ebf02b443ac7e17889c307561403d8118d8dfd6959814"), looks := true }, kinds := [], alts := [], laidByText := true, laidKinds := [.data, .data, .data], laidTests := true, laidLooks := .later }
def TableRowCardSaid : Prop := Claim7.holds Tryd.pinned (.plain (OpenSpec.ofChange tableRowSpec)) tableRowCard

/-- THE TIED CARD OF 'breccialaw12.TablePins'. -/
def tablePinsCard : Claim7 := { stood := { row := tablePinsRow, standIns := [], harness := (true, "675c711ba8eedd7ba53ebf02b443ac7e17889c307561403d8118d8dfd6959814"), looks := true }, kinds := [], alts := [], laidByText := true, laidKinds := [.data, .data, .data], laidTests := true, laidLooks := .later }
def TablePinsCardSaid : Prop := Claim7.holds Tryd.pinned (.plain (OpenSpec.ofChange tablePinsSpec)) tablePinsCard

/-- THE SECOND FORM's CARD OF 'breccialaw12.TableIds'. -/
def tableIdsUptoCard : Claim7 := { stood := { row := tableIdsUptoRow, standIns := [], harness := (true, "675c711ba8eedd7ba53ebf02b443ac7e17889c307561403d8118d8dfd6959814"), looks := true }, kinds := [], alts := [], laidByText := true, laidKinds := [.data, .data, .data], laidTests := true, laidLooks := .later }
def TableIdsUptoCardSaid : Prop := Claim7.holds Tryd.pinned (.plain (OpenSpec.upto tableIdsSpec)) tableIdsUptoCard

/-- THE SECOND FORM's CARD OF 'breccialaw12.TableRow'. -/
def tableRowUptoCard : Claim7 := { stood := { row := tableRowUptoRow, standIns := [], harness := (true, "675c711ba8eedd7ba53ebf02b443ac7e17889c307561403d8118d8dfd6959814"), looks := true }, kinds := [], alts := [], laidByText := true, laidKinds := [.data, .data, .data], laidTests := true, laidLooks := .later }
def TableRowUptoCardSaid : Prop := Claim7.holds Tryd.pinned (.plain (OpenSpec.upto tableRowSpec)) tableRowUptoCard

/-- THE SECOND FORM's CARD OF 'breccialaw12.TablePins'. -/
def tablePinsUptoCard : Claim7 := { stood := { row := tablePinsUptoRow, standIns := [], harness := (true, "675c711ba8eedd7ba53ebf02b443ac7e17889c307561403d8118d8dfd6959814"), looks := true }, kinds := [], alts := [], laidByText := true, laidKinds := [.data, .data, .data], laidTests := true, laidLooks := .later }
def TablePinsUptoCardSaid : Prop := Claim7.holds Tryd.pinned (.plain (OpenSpec.upto tablePinsSpec)) tablePinsUptoCard
end Rows
end Go.Proofs.YtbnmglonbhdcbaaDoor
