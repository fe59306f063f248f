/-
  DERIVED. GIVEN WITH THE SEED: THE CARDS: each row of YtfipllblcnahdaaDoorRows.lean that lists a variable, with what it lists TIED to the program's text (the seventh form; the later family's looks); each row that meets fmt, with fmt's text TOLD by the authors' own Lean function (tested against real Go, not proved from fmt's source: count such statements apart). THE CARD IS WHAT COUNTS. Prove the row's statement (the work); the ties are given (YtfipllblcnahdaaDoorTie.lean); close each card by the builder's one call (the guide's Derived/Test/ToyasCard.lean, 'card_holds'). Laid BY PROGRAM, IN A SANDBOX (cutbox-door.mjs). By AI agents, Wed Nov 11 2026. No macro, syntax, notation, axiom, sorry.
-/
import Derived.Test.YtfipllblcnahdaaDoorRows
import GoSem.ClaimSeven
namespace Go.Proofs.YtfipllblcnahdaaDoor
namespace Rows

/-- THE TIED CARD OF 'breccialaw11.ChunkOrder'. -/
def chunkOrderCard : Claim7 := { stood := { row := chunkOrderRow, standIns := [], harness := (true, "9ca302809a32002018858ca13b4ab7eecbc5d78837372f5cf07349ae3d196d5c"), looks := false }, kinds := [], alts := [], laidByText := true, laidKinds := [.data, .data, .data], laidTests := true, laidLooks := .later }
def ChunkOrderCardSaid : Prop := Claim7.holds Tryd.pinned (.plain (OpenSpec.ofChange chunkOrderSpec)) chunkOrderCard

/-- THE TIED CARD OF 'breccialaw11.ChunkAt'. -/
def chunkAtCard : Claim7 := { stood := { row := chunkAtRow, standIns := [], harness := (true, "9ca302809a32002018858ca13b4ab7eecbc5d78837372f5cf07349ae3d196d5c"), looks := false }, kinds := [], alts := [], laidByText := true, laidKinds := [.data, .data, .data], laidTests := true, laidLooks := .later }
def ChunkAtCardSaid : Prop := Claim7.holds Tryd.pinned (.plain (OpenSpec.ofChange chunkAtSpec)) chunkAtCard

/-- THE TIED CARD OF 'breccialaw11.ChunkNew'. -/
def chunkNewCard : Claim7 := { stood := { row := chunkNewRow, standIns := [], harness := (true, "9ca302809a32002018858ca13b4ab7eecbc5d78837372f5cf07349ae3d196d5c"), looks := false }, kinds := [], alts := [], laidByText := true, laidKinds := [.data, .data, .data], laidTests := true, laidLooks := .later }
def ChunkNewCardSaid : Prop := Claim7.holds Tryd.pinned (.plain (OpenSpec.ofChange chunkNewSpec)) chunkNewCard

/-- THE TIED CARD OF 'breccialaw11.ChunkPlays'. -/
def chunkPlaysCard : Claim7 := { stood := { row := chunkPlaysRow, standIns := [], harness := (true, "9ca302809a32002018858ca13b4ab7eecbc5d78837372f5cf07349ae3d196d5c"), looks := false }, kinds := [], alts := [], laidByText := true, laidKinds := [.data, .data, .data], laidTests := true, laidLooks := .later }
def ChunkPlaysCardSaid : Prop := Claim7.holds Tryd.pinned (.plain (OpenSpec.ofChange chunkPlaysSpec)) chunkPlaysCard

/-- THE TIED CARD OF 'breccialaw11.ChunkTops'. -/
def chunkTopsCard : Claim7 := { stood := { row := chunkTopsRow, standIns := [], harness := (true, "9ca302809a32002018858ca13b4ab7eecbc5d78837372f5cf07349ae3d196d5c"), looks := false }, kinds := [], alts := [], laidByText := true, laidKinds := [.data, .data, .data], laidTests := true, laidLooks := .later }
def ChunkTopsCardSaid : Prop := Claim7.holds Tryd.pinned (.plain (OpenSpec.ofChange chunkTopsSpec)) chunkTopsCard

/-- THE TIED CARD OF 'breccialaw11.ChunkFlat'. -/
def chunkFlatCard : Claim7 := { stood := { row := chunkFlatRow, standIns := [], harness := (true, "9ca302809a32002018858ca13b4ab7eecbc5d78837372f5cf07349ae3d196d5c"), looks := false }, kinds := [], alts := [], laidByText := true, laidKinds := [.data, .data, .data], laidTests := true, laidLooks := .later }
def ChunkFlatCardSaid : Prop := Claim7.holds Tryd.pinned (.plain (OpenSpec.ofChange chunkFlatSpec)) chunkFlatCard

/-- THE TIED CARD OF 'breccialaw11.ChunkBytes'. -/
def chunkBytesCard : Claim7 := { stood := { row := chunkBytesRow, standIns := [], harness := (true, "9ca302809a32002018858ca13b4ab7eecbc5d78837372f5cf07349ae3d196d5c"), looks := false }, kinds := [], alts := [], laidByText := true, laidKinds := [.data, .data, .data], laidTests := true, laidLooks := .later }
def ChunkBytesCardSaid : Prop := Claim7.holds Tryd.pinned (.plain (OpenSpec.ofChange chunkBytesSpec)) chunkBytesCard

/-- THE SECOND FORM's CARD OF 'breccialaw11.ChunkOrder'. -/
def chunkOrderUptoCard : Claim7 := { stood := { row := chunkOrderUptoRow, standIns := [], harness := (true, "9ca302809a32002018858ca13b4ab7eecbc5d78837372f5cf07349ae3d196d5c"), looks := false }, kinds := [], alts := [], laidByText := true, laidKinds := [.data, .data, .data], laidTests := true, laidLooks := .later }
def ChunkOrderUptoCardSaid : Prop := Claim7.holds Tryd.pinned (.plain (OpenSpec.upto chunkOrderSpec)) chunkOrderUptoCard

/-- THE SECOND FORM's CARD OF 'breccialaw11.ChunkAt'. -/
def chunkAtUptoCard : Claim7 := { stood := { row := chunkAtUptoRow, standIns := [], harness := (true, "9ca302809a32002018858ca13b4ab7eecbc5d78837372f5cf07349ae3d196d5c"), looks := false }, kinds := [], alts := [], laidByText := true, laidKinds := [.data, .data, .data], laidTests := true, laidLooks := .later }
def ChunkAtUptoCardSaid : Prop := Claim7.holds Tryd.pinned (.plain (OpenSpec.upto chunkAtSpec)) chunkAtUptoCard

/-- THE SECOND FORM's CARD OF 'breccialaw11.ChunkNew'. -/
def chunkNewUptoCard : Claim7 := { stood := { row := chunkNewUptoRow, standIns := [], harness := (true, "9ca302809a32002018858ca13b4ab7eecbc5d78837372f5cf07349ae3d196d5c"), looks := false }, kinds := [], alts := [], laidByText := true, laidKinds := [.data, .data, .data], laidTests := true, laidLooks := .later }
def ChunkNewUptoCardSaid : Prop := Claim7.holds Tryd.pinned (.plain (OpenSpec.upto chunkNewSpec)) chunkNewUptoCard

/-- THE SECOND FORM's CARD OF 'breccialaw11.ChunkPlays'. -/
def chunkPlaysUptoCard : Claim7 := { stood := { row := chunkPlaysUptoRow, standIns := [], harness := (true, "9ca302809a32002018858ca13b4ab7eecbc5d78837372f5cf07349ae3d196d5c"), looks := false }, kinds := [], alts := [], laidByText := true, laidKinds := [.data, .data, .data], laidTests := true, laidLooks := .later }
def ChunkPlaysUptoCardSaid : Prop := Claim7.holds Tryd.pinned (.plain (OpenSpec.upto chunkPlaysSpec)) chunkPlaysUptoCard

/-- THE SECOND FORM's CARD OF 'breccialaw11.ChunkTops'. -/
def chunkTopsUptoCard : Claim7 := { stood := { row := chunkTopsUptoRow, standIns := [], harness := (true, "9ca302809a32002018858ca13b4ab7eecbc5d78837372f5cf07349ae3d196d5c"), looks := false }, kinds := [], alts := [], laidByText := true, laidKinds := [.data, .data, .data], laidTests := true, laidLooks := .later }
def ChunkTopsUptoCardSaid : Prop := Claim7.holds Tryd.pinned (.plain (OpenSpec.upto chunkTopsSpec)) chunkTopsUptoCard

/-- THE SECOND FORM's CARD OF 'breccialaw11.ChunkFlat'. -/
def chunkFlatUptoCard : Claim7 := { stood := { row := chunkFlatUptoRow, standIns := [], harness := (true, "9ca302809a32002018858ca13b4ab7eecbc5d78837372f5cf07349ae3d196d5c"), looks := false }, kinds := [], alts := [], laidByText := true, laidKinds := [.data, .data, .data], laidTests := true, laidLooks := .later }
def ChunkFlatUptoCardSaid : Prop := Claim7.holds Tryd.pinned (.plain (OpenSpec.upto chunkFlatSpec)) chunkFlatUptoCard

/-- THE SECOND FORM's CARD OF 'breccialaw11.ChunkBytes'. -/
def chunkBytesUptoCard : Claim7 := { stood := { row := chunkBytesUptoRow, standIns := [], harness := (true, "9ca302809a32002018858ca13b4ab7eecbc5d78837372f5cf07349ae3d196d5c"), looks := false }, kinds := [], alts := [], laidByText := true, laidKinds := [.data, .data, .data], laidTests := true, laidLooks := .later }
def ChunkBytesUptoCardSaid : Prop := Claim7.holds Tryd.pinned (.plain (OpenSpec.upto chunkBytesSpec)) chunkBytesUptoCard
end Rows
end Go.Proofs.YtfipllblcnahdaaDoor
