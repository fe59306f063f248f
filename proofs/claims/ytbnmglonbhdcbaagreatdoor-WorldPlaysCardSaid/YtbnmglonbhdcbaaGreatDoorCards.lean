/-
  DERIVED. GIVEN WITH THE SEED: THE CARDS: each row of YtbnmglonbhdcbaaGreatDoorRows.lean that lists a variable, with what it lists TIED to the program's text (the seventh form; the later family's looks); each row that meets fmt, with fmt's text TOLD by the authors' own Lean function (tested against real Go, not proved from fmt's source: count such statements apart). THE CARD IS WHAT COUNTS. Prove the row's statement (the work); the ties are given (YtbnmglonbhdcbaaGreatDoorTie.lean); close each card by the builder's one call (the guide's Derived/Test/ToyasCard.lean, 'card_holds'). Laid BY PROGRAM, IN A SANDBOX (cutbox-door.mjs). By AI agents, Wed Nov 11 2026. No macro, syntax, notation, axiom, sorry.
-/
import Derived.Test.YtbnmglonbhdcbaaGreatDoorRows
import GoSem.ClaimSeven
namespace Go.Proofs.YtbnmglonbhdcbaaGreatDoor
namespace Rows

/-- THE TIED CARD OF 'breccialaw13.WorldViews'. -/
def worldViewsCard : Claim7 := { stood := { row := worldViewsRow, standIns := [], harness := (true, "8d0f9174fcbccc6b9f4bd32477679f0819c9815c215a57be6a889cf96a75419b"), looks := true }, kinds := [], alts := [], laidByText := true, laidKinds := [.data, .data, .data], laidTests := true, laidLooks := .later }
def WorldViewsCardSaid : Prop := Claim7.holds Tryz.pinned (.plain (OpenSpec.ofChange worldViewsSpec)) worldViewsCard

/-- THE TIED CARD OF 'breccialaw12.TableCaches'. -/
def tableCachesCard : Claim7 := { stood := { row := tableCachesRow, standIns := [], harness := (true, "8d0f9174fcbccc6b9f4bd32477679f0819c9815c215a57be6a889cf96a75419b"), looks := true }, kinds := [], alts := [], laidByText := true, laidKinds := [.data, .data, .data], laidTests := true, laidLooks := .later }
def TableCachesCardSaid : Prop := Claim7.holds Tryz.pinned (.plain (OpenSpec.ofChange tableCachesSpec)) tableCachesCard

/-- THE TIED CARD OF 'breccialaw13.WorldTwice'. -/
def worldTwiceCard : Claim7 := { stood := { row := worldTwiceRow, standIns := [], harness := (true, "8d0f9174fcbccc6b9f4bd32477679f0819c9815c215a57be6a889cf96a75419b"), looks := true }, kinds := [], alts := [], laidByText := true, laidKinds := [.data, .data, .data], laidTests := true, laidLooks := .later }
def WorldTwiceCardSaid : Prop := Claim7.holds Tryz.pinned (.plain (OpenSpec.ofChange worldTwiceSpec)) worldTwiceCard

/-- THE TIED CARD OF 'breccialaw13.WorldChanges'. -/
def worldChangesCard : Claim7 := { stood := { row := worldChangesRow, standIns := [], harness := (true, "8d0f9174fcbccc6b9f4bd32477679f0819c9815c215a57be6a889cf96a75419b"), looks := true }, kinds := [], alts := [], laidByText := true, laidKinds := [.data, .data, .data], laidTests := true, laidLooks := .later }
def WorldChangesCardSaid : Prop := Claim7.holds Tryz.pinned (.plain (OpenSpec.ofChange worldChangesSpec)) worldChangesCard

/-- THE TIED CARD OF 'breccialaw12.TableDirty'. -/
def tableDirtyCard : Claim7 := { stood := { row := tableDirtyRow, standIns := [], harness := (true, "8d0f9174fcbccc6b9f4bd32477679f0819c9815c215a57be6a889cf96a75419b"), looks := true }, kinds := [], alts := [], laidByText := true, laidKinds := [.data, .data, .data], laidTests := true, laidLooks := .later }
def TableDirtyCardSaid : Prop := Claim7.holds Tryz.pinned (.plain (OpenSpec.ofChange tableDirtySpec)) tableDirtyCard

/-- THE TIED CARD OF 'breccialaw12.TableCrashes'. -/
def tableCrashesCard : Claim7 := { stood := { row := tableCrashesRow, standIns := [], harness := (true, "8d0f9174fcbccc6b9f4bd32477679f0819c9815c215a57be6a889cf96a75419b"), looks := true }, kinds := [], alts := [], laidByText := true, laidKinds := [.data, .data, .data], laidTests := true, laidLooks := .later }
def TableCrashesCardSaid : Prop := Claim7.holds Tryz.pinned (.plain (OpenSpec.ofChange tableCrashesSpec)) tableCrashesCard

/-- THE TIED CARD OF 'breccialaw13.WorldOpen'. -/
def worldOpenCard : Claim7 := { stood := { row := worldOpenRow, standIns := [], harness := (true, "8d0f9174fcbccc6b9f4bd32477679f0819c9815c215a57be6a889cf96a75419b"), looks := true }, kinds := [], alts := [], laidByText := true, laidKinds := [.data, .data, .data], laidTests := true, laidLooks := .later }
def WorldOpenCardSaid : Prop := Claim7.holds Tryz.pinned (.plain (OpenSpec.ofChange worldOpenSpec)) worldOpenCard

/-- THE TIED CARD OF 'breccialaw13.WorldPlays'. -/
def worldPlaysCard : Claim7 := { stood := { row := worldPlaysRow, standIns := [], harness := (true, "8d0f9174fcbccc6b9f4bd32477679f0819c9815c215a57be6a889cf96a75419b"), looks := true }, kinds := [], alts := [], laidByText := true, laidKinds := [.data, .data, .data], laidTests := true, laidLooks := .later }
def WorldPlaysCardSaid : Prop := Claim7.holds Tryz.pinned (.plain (OpenSpec.ofChange worldPlaysSpec)) worldPlaysCard

/-- THE TIED CARD OF 'breccialaw12.TablePlays'. -/
def tablePlaysCard : Claim7 := { stood := { row := tablePlaysRow, standIns := [], harness := (true, "8d0f9174fcbccc6b9f4bd32477679f0819c9815c215a57be6a889cf96a75419b"), looks := true }, kinds := [], alts := [], laidByText := true, laidKinds := [.data, .data, .data], laidTests := true, laidLooks := .later }
def TablePlaysCardSaid : Prop := Claim7.holds Tryz.pinned (.plain (OpenSpec.ofChange tablePlaysSpec)) tablePlaysCard

/-- THE SECOND FORM's CARD OF 'breccialaw13.WorldViews'. -/
def worldViewsUptoCard : Claim7 := { stood := { row := worldViewsUptoRow, standIns := [], harness := (true, "8d0f9174fcbccc6b9f4bd32477679f0819c9815c215a57be6a889cf96a75419b"), looks := true }, kinds := [], alts := [], laidByText := true, laidKinds := [.data, .data, .data], laidTests := true, laidLooks := .later }
def WorldViewsUptoCardSaid : Prop := Claim7.holds Tryz.pinned (.plain (OpenSpec.upto worldViewsSpec)) worldViewsUptoCard

/-- THE SECOND FORM's CARD OF 'breccialaw12.TableCaches'. -/
def tableCachesUptoCard : Claim7 := { stood := { row := tableCachesUptoRow, standIns := [], harness := (true, "8d0f9174fcbccc6b9f4bd32477679f0819c9815c215a57be6a889cf96a75419b"), looks := true }, kinds := [], alts := [], laidByText := true, laidKinds := [.data, .data, .data], laidTests := true, laidLooks := .later }
def TableCachesUptoCardSaid : Prop := Claim7.holds Tryz.pinned (.plain (OpenSpec.upto tableCachesSpec)) tableCachesUptoCard

/-- THE SECOND FORM's CARD OF 'breccialaw13.WorldTwice'. -/
def worldTwiceUptoCard : Claim7 := { stood := { row := worldTwiceUptoRow, standIns := [], harness := (true, "8d0f9174fcbccc6b9f4bd32477679f0819c9815c215a57be6a889cf96a75419b"), looks := true }, kinds := [], alts := [], laidByText := true, laidKinds := [.data, .data, .data], laidTests := true, laidLooks := .later }
def WorldTwiceUptoCardSaid : Prop := Claim7.holds Tryz.pinned (.plain (OpenSpec.upto worldTwiceSpec)) worldTwiceUptoCard

/-- THE SECOND FORM's CARD OF 'breccialaw13.WorldChanges'. -/
def worldChangesUptoCard : Claim7 := { stood := { row := worldChangesUptoRow, standIns := [], harness := (true, "8d0f9174fcbccc6b9f4bd32477679f0819c9815c215a57be6a889cf96a75419b"), looks := true }, kinds := [], alts := [], laidByText := true, laidKinds := [.data, .data, .data], laidTests := true, laidLooks := .later }
def WorldChangesUptoCardSaid : Prop := Claim7.holds Tryz.pinned (.plain (OpenSpec.upto worldChangesSpec)) worldChangesUptoCard

/-- THE SECOND FORM's CARD OF 'breccialaw12.TableDirty'. -/
def tableDirtyUptoCard : Claim7 := { stood := { row := tableDirtyUptoRow, standIns := [], harness := (true, "8d0f9174fcbccc6b9f4bd32477679f0819c9815c215a57be6a889cf96a75419b"), looks := true }, kinds := [], alts := [], laidByText := true, laidKinds := [.data, .data, .data], laidTests := true, laidLooks := .later }
def TableDirtyUptoCardSaid : Prop := Claim7.holds Tryz.pinned (.plain (OpenSpec.upto tableDirtySpec)) tableDirtyUptoCard

/-- THE SECOND FORM's CARD OF 'breccialaw12.TableCrashes'. -/
def tableCrashesUptoCard : Claim7 := { stood := { row := tableCrashesUptoRow, standIns := [], harness := (true, "8d0f9174fcbccc6b9f4bd32477679f0819c9815c215a57be6a889cf96a75419b"), looks := true }, kinds := [], alts := [], laidByText := true, laidKinds := [.data, .data, .data], laidTests := true, laidLooks := .later }
def TableCrashesUptoCardSaid : Prop := Claim7.holds Tryz.pinned (.plain (OpenSpec.upto tableCrashesSpec)) tableCrashesUptoCard

/-- THE SECOND FORM's CARD OF 'breccialaw13.WorldOpen'. -/
def worldOpenUptoCard : Claim7 := { stood := { row := worldOpenUptoRow, standIns := [], harness := (true, "8d0f9174fcbccc6b9f4bd32477679f0819c9815c215a57be6a889cf96a75419b"), looks := true }, kinds := [], alts := [], laidByText := true, laidKinds := [.data, .data, .data], laidTests := true, laidLooks := .later }
def WorldOpenUptoCardSaid : Prop := Claim7.holds Tryz.pinned (.plain (OpenSpec.upto worldOpenSpec)) worldOpenUptoCard

/-- THE SECOND FORM's CARD OF 'breccialaw13.WorldPlays'. -/
def worldPlaysUptoCard : Claim7 := { stood := { row := worldPlaysUptoRow, standIns := [], harness := (true, "8d0f9174fcbccc6b9f4bd32477679f0819c9815c215a57be6a889cf96a75419b"), looks := true }, kinds := [], alts := [], laidByText := true, laidKinds := [.data, .data, .data], laidTests := true, laidLooks := .later }
def WorldPlaysUptoCardSaid : Prop := Claim7.holds Tryz.pinned (.plain (OpenSpec.upto worldPlaysSpec)) worldPlaysUptoCard

/-- THE SECOND FORM's CARD OF 'breccialaw12.TablePlays'. -/
def tablePlaysUptoCard : Claim7 := { stood := { row := tablePlaysUptoRow, standIns := [], harness := (true, "8d0f9174fcbccc6b9f4bd32477679f0819c9815c215a57be6a889cf96a75419b"), looks := true }, kinds := [], alts := [], laidByText := true, laidKinds := [.data, .data, .data], laidTests := true, laidLooks := .later }
def TablePlaysUptoCardSaid : Prop := Claim7.holds Tryz.pinned (.plain (OpenSpec.upto tablePlaysSpec)) tablePlaysUptoCard
end Rows
end Go.Proofs.YtbnmglonbhdcbaaGreatDoor
