/-
  DERIVED. GIVEN WITH THE SEED: THE CARDS: each row of YtkkkfkopcfdmaaaGreatDoorRows.lean that lists a variable, with what it lists TIED to the program's text (the seventh form; the later family's looks); each row that meets fmt, with fmt's text TOLD by the authors' own Lean function (tested against real Go, not proved from fmt's source: count such statements apart). THE CARD IS WHAT COUNTS. Prove the row's statement (the work); the ties are given (YtkkkfkopcfdmaaaGreatDoorTie.lean); close each card by the builder's one call (the guide's Derived/Test/ToyasCard.lean, 'card_holds'). Laid BY PROGRAM, IN A SANDBOX (cutbox-door.mjs). By AI agents, Wed Nov 11 2026. No macro, syntax, notation, axiom, sorry.
-/
import Derived.Test.YtkkkfkopcfdmaaaGreatDoorRows
import GoSem.ClaimSeven
namespace Go.Proofs.YtkkkfkopcfdmaaaGreatDoor
namespace Rows

/-- THE TIED CARD OF 'breccialaw21.EngineSpawns'. -/
def engineSpawnsCard : Claim7 := { stood := { row := engineSpawnsRow, standIns := [], harness := (true, "35e81c0ba926710c2a24f90cf1253485641fd70b533749039624d97ea7e59721"), looks := true }, kinds := [], alts := [], laidByText := true, laidKinds := [.data, .data, .data], laidTests := true, laidLooks := .later }
def EngineSpawnsCardSaid : Prop := Claim7.holds Tryz.pinned (.plain (OpenSpec.ofChange engineSpawnsSpec)) engineSpawnsCard

/-- THE TIED CARD OF 'breccialaw21.EnginePlays'. -/
def enginePlaysCard : Claim7 := { stood := { row := enginePlaysRow, standIns := [], harness := (true, "35e81c0ba926710c2a24f90cf1253485641fd70b533749039624d97ea7e59721"), looks := true }, kinds := [], alts := [], laidByText := true, laidKinds := [.data, .data, .data], laidTests := true, laidLooks := .later }
def EnginePlaysCardSaid : Prop := Claim7.holds Tryz.pinned (.plain (OpenSpec.ofChange enginePlaysSpec)) enginePlaysCard

/-- THE TIED CARD OF 'breccialaw21.EngineFree'. -/
def engineFreeCard : Claim7 := { stood := { row := engineFreeRow, standIns := [], harness := (true, "35e81c0ba926710c2a24f90cf1253485641fd70b533749039624d97ea7e59721"), looks := true }, kinds := [], alts := [], laidByText := true, laidKinds := [.data, .data, .data], laidTests := true, laidLooks := .later }
def EngineFreeCardSaid : Prop := Claim7.holds Tryz.pinned (.plain (OpenSpec.ofChange engineFreeSpec)) engineFreeCard

/-- THE TIED CARD OF 'breccialaw21.EngineCaches'. -/
def engineCachesCard : Claim7 := { stood := { row := engineCachesRow, standIns := [], harness := (true, "35e81c0ba926710c2a24f90cf1253485641fd70b533749039624d97ea7e59721"), looks := true }, kinds := [], alts := [], laidByText := true, laidKinds := [.data, .data, .data], laidTests := true, laidLooks := .later }
def EngineCachesCardSaid : Prop := Claim7.holds Tryz.pinned (.plain (OpenSpec.ofChange engineCachesSpec)) engineCachesCard

/-- THE TIED CARD OF 'breccialaw21.EngineReach'. -/
def engineReachCard : Claim7 := { stood := { row := engineReachRow, standIns := [], harness := (true, "35e81c0ba926710c2a24f90cf1253485641fd70b533749039624d97ea7e59721"), looks := true }, kinds := [], alts := [], laidByText := true, laidKinds := [.data, .data, .data], laidTests := true, laidLooks := .later }
def EngineReachCardSaid : Prop := Claim7.holds Tryz.pinned (.plain (OpenSpec.ofChange engineReachSpec)) engineReachCard

/-- THE TIED CARD OF 'breccialaw21.EngineCrashes'. -/
def engineCrashesCard : Claim7 := { stood := { row := engineCrashesRow, standIns := [], harness := (true, "35e81c0ba926710c2a24f90cf1253485641fd70b533749039624d97ea7e59721"), looks := true }, kinds := [], alts := [], laidByText := true, laidKinds := [.data, .data, .data], laidTests := true, laidLooks := .later }
def EngineCrashesCardSaid : Prop := Claim7.holds Tryz.pinned (.plain (OpenSpec.ofChange engineCrashesSpec)) engineCrashesCard

/-- THE SECOND FORM's CARD OF 'breccialaw21.EngineSpawns'. -/
def engineSpawnsUptoCard : Claim7 := { stood := { row := engineSpawnsUptoRow, standIns := [], harness := (true, "35e81c0ba926710c2a24f90cf1253485641fd70b533749039624d97ea7e59721"), looks := true }, kinds := [], alts := [], laidByText := true, laidKinds := [.data, .data, .data], laidTests := true, laidLooks := .later }
def EngineSpawnsUptoCardSaid : Prop := Claim7.holds Tryz.pinned (.plain (OpenSpec.upto engineSpawnsSpec)) engineSpawnsUptoCard

/-- THE SECOND FORM's CARD OF 'breccialaw21.EnginePlays'. -/
def enginePlaysUptoCard : Claim7 := { stood := { row := enginePlaysUptoRow, standIns := [], harness := (true, "35e81c0ba926710c2a24f90cf1253485641fd70b533749039624d97ea7e59721"), looks := true }, kinds := [], alts := [], laidByText := true, laidKinds := [.data, .data, .data], laidTests := true, laidLooks := .later }
def EnginePlaysUptoCardSaid : Prop := Claim7.holds Tryz.pinned (.plain (OpenSpec.upto enginePlaysSpec)) enginePlaysUptoCard

/-- THE SECOND FORM's CARD OF 'breccialaw21.EngineFree'. -/
def engineFreeUptoCard : Claim7 := { stood := { row := engineFreeUptoRow, standIns := [], harness := (true, "35e81c0ba926710c2a24f90cf1253485641fd70b533749039624d97ea7e59721"), looks := true }, kinds := [], alts := [], laidByText := true, laidKinds := [.data, .data, .data], laidTests := true, laidLooks := .later }
def EngineFreeUptoCardSaid : Prop := Claim7.holds Tryz.pinned (.plain (OpenSpec.upto engineFreeSpec)) engineFreeUptoCard

/-- THE SECOND FORM's CARD OF 'breccialaw21.EngineCaches'. -/
def engineCachesUptoCard : Claim7 := { stood := { row := engineCachesUptoRow, standIns := [], harness := (true, "35e81c0ba926710c2a24f90cf1253485641fd70b533749039624d97ea7e59721"), looks := true }, kinds := [], alts := [], laidByText := true, laidKinds := [.data, .data, .data], laidTests := true, laidLooks := .later }
def EngineCachesUptoCardSaid : Prop := Claim7.holds Tryz.pinned (.plain (OpenSpec.upto engineCachesSpec)) engineCachesUptoCard

/-- THE SECOND FORM's CARD OF 'breccialaw21.EngineReach'. -/
def engineReachUptoCard : Claim7 := { stood := { row := engineReachUptoRow, standIns := [], harness := (true, "35e81c0ba926710c2a24f90cf1253485641fd70b533749039624d97ea7e59721"), looks := true }, kinds := [], alts := [], laidByText := true, laidKinds := [.data, .data, .data], laidTests := true, laidLooks := .later }
def EngineReachUptoCardSaid : Prop := Claim7.holds Tryz.pinned (.plain (OpenSpec.upto engineReachSpec)) engineReachUptoCard

/-- THE SECOND FORM's CARD OF 'breccialaw21.EngineCrashes'. -/
def engineCrashesUptoCard : Claim7 := { stood := { row := engineCrashesUptoRow, standIns := [], harness := (true, "35e81c0ba926710c2a24f90cf1253485641fd70b533749039624d97ea7e59721"), looks := true }, kinds := [], alts := [], laidByText := true, laidKinds := [.data, .data, .data], laidTests := true, laidLooks := .later }
def EngineCrashesUptoCardSaid : Prop := Claim7.holds Tryz.pinned (.plain (OpenSpec.upto engineCrashesSpec)) engineCrashesUptoCard
end Rows
end Go.Proofs.YtkkkfkopcfdmaaaGreatDoor
