/-
  NARROWER THAN 'FOR EVERY INPUT', by the rows' own cells (each row's printed sentence says how): WorldViews: laid · TableCaches: laid · WorldTwice: laid · WorldChanges: laid · TableDirty: laid · TableCrashes: laid · WorldOpen: laid · WorldPlays: laid · TablePlays: laid.
  DERIVED. THE GIVEN ROWS OF THIS SEAT. 9 by the template 'for every input the law returns true; each argument reads behind the call as it read before'; 0 by the template 'total and deterministic' (their statements: YtbnmglonbhdcbaaGreatDoorTotals.lean).
  GIVEN WITH THE SEED: the statements are not yours to turn. If you find one false, say at which input.
  Laid BY PROGRAM, IN A SANDBOX (cutbox-rows.mjs): the forced cells as the released guide's own fill.sh prints them over the translation 10f6265530a029dd… (all of the seat's roots in one cut). By AI agents, Wed Nov 11 2026. No macro, syntax, notation, axiom, sorry.
-/
import Derived.Test.YtbnmglonbhdcbaaGreatDoorChecked
import GoSem.Claim
import GoSem.ClaimJoined
import GoSem.ClaimMapViews
import Derived.JoinedTies
import Derived.KernelRfl
namespace Go.Proofs.YtbnmglonbhdcbaaGreatDoor
/- THE CELL 'sum', in the pinned program and in every row, IS THE sha256 OF THE DUMP (.gsa) THAT YtbnmglonbhdcbaaGreatDoorProg.lean LOADS. Nothing in Lean hashes anything: it is a label: what it is worth is what the hold of that sum in a sandbox is worth. -/
noncomputable def Tryz.pinned : Pinned := { name := "ytbnmglonbhdcbaagreatdoor", sum := "10f6265530a029ddf1c4f14c429ec1f1730ecb145b96dc74b046e66c7027fd4e", checked := Tryz.checked }
namespace Rows
def none {H : Type} : Left H := { results := [], args := [] }

/- WHAT THE LISTED PACKAGE-LEVEL VARIABLES READ AS WHEN THE CALL BEGINS. Each datum BY PROGRAM (the guide's laid-datum.mjs) off the statement by which the dump's own 'gosem.cut.vars' lays the variable. In a bare row this is a premise. The card (YtbnmglonbhdcbaaGreatDoorCards.lean) ties it to the program's text. -/
def laid_math_bits_deBruijn32tab {H : Type} : DataW H := .agg [.lit (.int .u8 0), .lit (.int .u8 1), .lit (.int .u8 28), .lit (.int .u8 2), .lit (.int .u8 29), .lit (.int .u8 14), .lit (.int .u8 24), .lit (.int .u8 3), .lit (.int .u8 30), .lit (.int .u8 22), .lit (.int .u8 20), .lit (.int .u8 15), .lit (.int .u8 25), .lit (.int .u8 17), .lit (.int .u8 4), .lit (.int .u8 8), .lit (.int .u8 31), .lit (.int .u8 27), .lit (.int .u8 13), .lit (.int .u8 23), .lit (.int .u8 21), .lit (.int .u8 19), .lit (.int .u8 16), .lit (.int .u8 7), .lit (.int .u8 26), .lit (.int .u8 12), .lit (.int .u8 18), .lit (.int .u8 6), .lit (.int .u8 11), .lit (.int .u8 5), .lit (.int .u8 10), .lit (.int .u8 9)]
def laid_math_bits_deBruijn64tab {H : Type} : DataW H := .agg [.lit (.int .u8 0), .lit (.int .u8 1), .lit (.int .u8 56), .lit (.int .u8 2), .lit (.int .u8 57), .lit (.int .u8 49), .lit (.int .u8 28), .lit (.int .u8 3), .lit (.int .u8 61), .lit (.int .u8 58), .lit (.int .u8 42), .lit (.int .u8 50), .lit (.int .u8 38), .lit (.int .u8 29), .lit (.int .u8 17), .lit (.int .u8 4), .lit (.int .u8 62), .lit (.int .u8 47), .lit (.int .u8 59), .lit (.int .u8 36), .lit (.int .u8 45), .lit (.int .u8 43), .lit (.int .u8 51), .lit (.int .u8 22), .lit (.int .u8 53), .lit (.int .u8 39), .lit (.int .u8 33), .lit (.int .u8 30), .lit (.int .u8 24), .lit (.int .u8 18), .lit (.int .u8 12), .lit (.int .u8 5), .lit (.int .u8 63), .lit (.int .u8 55), .lit (.int .u8 48), .lit (.int .u8 27), .lit (.int .u8 60), .lit (.int .u8 41), .lit (.int .u8 37), .lit (.int .u8 16), .lit (.int .u8 46), .lit (.int .u8 35), .lit (.int .u8 44), .lit (.int .u8 21), .lit (.int .u8 52), .lit (.int .u8 32), .lit (.int .u8 23), .lit (.int .u8 11), .lit (.int .u8 54), .lit (.int .u8 26), .lit (.int .u8 40), .lit (.int .u8 15), .lit (.int .u8 34), .lit (.int .u8 20), .lit (.int .u8 31), .lit (.int .u8 10), .lit (.int .u8 25), .lit (.int .u8 14), .lit (.int .u8 19), .lit (.int .u8 9), .lit (.int .u8 13), .lit (.int .u8 8), .lit (.int .u8 7), .lit (.int .u8 6)]
def laid_internal_strconv_uint64pow10 {H : Type} : DataW H := .agg [.lit (.int .u64 1), .lit (.int .u64 10), .lit (.int .u64 100), .lit (.int .u64 1000), .lit (.int .u64 10000), .lit (.int .u64 100000), .lit (.int .u64 1000000), .lit (.int .u64 10000000), .lit (.int .u64 100000000), .lit (.int .u64 1000000000), .lit (.int .u64 10000000000), .lit (.int .u64 100000000000), .lit (.int .u64 1000000000000), .lit (.int .u64 10000000000000), .lit (.int .u64 100000000000000), .lit (.int .u64 1000000000000000), .lit (.int .u64 10000000000000000), .lit (.int .u64 100000000000000000), .lit (.int .u64 1000000000000000000), .lit (.int .u64 10000000000000000000)]

/-- 'breccialaw13.WorldViews': WHATEVER THE INPUT: true; the input reads as it did. -/
def worldViewsSpec : ChangeSpec := { name := "worldViews", fn := fun _ => fun
  | [d1, d2, d3, d4] => { results := [.lit (.bool true)], args := [d1, d2, d3, d4] }
  | _ => none }
def worldViewsRow : OpenClaim := { program := "ytbnmglonbhdcbaagreatdoor", sum := "10f6265530a029ddf1c4f14c429ec1f1730ecb145b96dc74b046e66c7027fd4e", func := "breccia/breccialaw13.WorldViews", spec := "worldViews", inPlace := ["maps.clone"], unfollowed := true, recurses := true, named := ["internal/strconv.uint64pow10", "math/bits.deBruijn32tab", "math/bits.deBruijn64tab"], apart := false, laid := [("math/bits.deBruijn32tab", laid_math_bits_deBruijn32tab), ("math/bits.deBruijn64tab", laid_math_bits_deBruijn64tab), ("internal/strconv.uint64pow10", laid_internal_strconv_uint64pow10)] }
def WorldViewsSaid : Prop := worldViewsRow.holds Tryz.pinned (OpenSpec.ofChange worldViewsSpec)

/-- ITS FALSE NEIGHBOUR: 'it returns false'. Refute it at one input. -/
def worldViewsWrong : ChangeSpec := { name := "worldViews", fn := fun _ => fun
  | [d1, d2, d3, d4] => { results := [.lit (.bool false)], args := [d1, d2, d3, d4] }
  | _ => none }
def WorldViewsWrongFalsely : Prop := worldViewsRow.holds Tryz.pinned (OpenSpec.ofChange worldViewsWrong)

/-- 'breccialaw12.TableCaches': WHATEVER THE INPUT: true; the input reads as it did. -/
def tableCachesSpec : ChangeSpec := { name := "tableCaches", fn := fun _ => fun
  | [d1, d2, d3, d4] => { results := [.lit (.bool true)], args := [d1, d2, d3, d4] }
  | _ => none }
def tableCachesRow : OpenClaim := { program := "ytbnmglonbhdcbaagreatdoor", sum := "10f6265530a029ddf1c4f14c429ec1f1730ecb145b96dc74b046e66c7027fd4e", func := "breccia/breccialaw12.TableCaches", spec := "tableCaches", inPlace := ["maps.clone"], unfollowed := true, recurses := true, named := ["internal/strconv.uint64pow10", "math/bits.deBruijn32tab", "math/bits.deBruijn64tab"], apart := false, laid := [("math/bits.deBruijn32tab", laid_math_bits_deBruijn32tab), ("math/bits.deBruijn64tab", laid_math_bits_deBruijn64tab), ("internal/strconv.uint64pow10", laid_internal_strconv_uint64pow10)] }
def TableCachesSaid : Prop := tableCachesRow.holds Tryz.pinned (OpenSpec.ofChange tableCachesSpec)

/-- ITS FALSE NEIGHBOUR: 'it returns false'. Refute it at one input. -/
def tableCachesWrong : ChangeSpec := { name := "tableCaches", fn := fun _ => fun
  | [d1, d2, d3, d4] => { results := [.lit (.bool false)], args := [d1, d2, d3, d4] }
  | _ => none }
def TableCachesWrongFalsely : Prop := tableCachesRow.holds Tryz.pinned (OpenSpec.ofChange tableCachesWrong)

/-- 'breccialaw13.WorldTwice': WHATEVER THE INPUT: true; the input reads as it did. -/
def worldTwiceSpec : ChangeSpec := { name := "worldTwice", fn := fun _ => fun
  | [d1, d2, d3, d4, d5] => { results := [.lit (.bool true)], args := [d1, d2, d3, d4, d5] }
  | _ => none }
def worldTwiceRow : OpenClaim := { program := "ytbnmglonbhdcbaagreatdoor", sum := "10f6265530a029ddf1c4f14c429ec1f1730ecb145b96dc74b046e66c7027fd4e", func := "breccia/breccialaw13.WorldTwice", spec := "worldTwice", inPlace := ["maps.clone"], unfollowed := true, recurses := true, named := ["internal/strconv.uint64pow10", "math/bits.deBruijn32tab", "math/bits.deBruijn64tab"], apart := false, laid := [("math/bits.deBruijn32tab", laid_math_bits_deBruijn32tab), ("math/bits.deBruijn64tab", laid_math_bits_deBruijn64tab), ("internal/strconv.uint64pow10", laid_internal_strconv_uint64pow10)] }
def WorldTwiceSaid : Prop := worldTwiceRow.holds Tryz.pinned (OpenSpec.ofChange worldTwiceSpec)

/-- ITS FALSE NEIGHBOUR: 'it returns false'. Refute it at one input. -/
def worldTwiceWrong : ChangeSpec := { name := "worldTwice", fn := fun _ => fun
  | [d1, d2, d3, d4, d5] => { results := [.lit (.bool false)], args := [d1, d2, d3, d4, d5] }
  | _ => none }
def WorldTwiceWrongFalsely : Prop := worldTwiceRow.holds Tryz.pinned (OpenSpec.ofChange worldTwiceWrong)

/-- 'breccialaw13.WorldChanges': WHATEVER THE INPUT: true; the input reads as it did. -/
def worldChangesSpec : ChangeSpec := { name := "worldChanges", fn := fun _ => fun
  | [d1, d2, d3] => { results := [.lit (.bool true)], args := [d1, d2, d3] }
  | _ => none }
def worldChangesRow : OpenClaim := { program := "ytbnmglonbhdcbaagreatdoor", sum := "10f6265530a029ddf1c4f14c429ec1f1730ecb145b96dc74b046e66c7027fd4e", func := "breccia/breccialaw13.WorldChanges", spec := "worldChanges", inPlace := ["maps.clone"], unfollowed := true, recurses := true, named := ["internal/strconv.uint64pow10", "math/bits.deBruijn32tab", "math/bits.deBruijn64tab"], apart := false, laid := [("math/bits.deBruijn32tab", laid_math_bits_deBruijn32tab), ("math/bits.deBruijn64tab", laid_math_bits_deBruijn64tab), ("internal/strconv.uint64pow10", laid_internal_strconv_uint64pow10)] }
def WorldChangesSaid : Prop := worldChangesRow.holds Tryz.pinned (OpenSpec.ofChange worldChangesSpec)

/-- ITS FALSE NEIGHBOUR: 'it returns false'. Refute it at one input. -/
def worldChangesWrong : ChangeSpec := { name := "worldChanges", fn := fun _ => fun
  | [d1, d2, d3] => { results := [.lit (.bool false)], args := [d1, d2, d3] }
  | _ => none }
def WorldChangesWrongFalsely : Prop := worldChangesRow.holds Tryz.pinned (OpenSpec.ofChange worldChangesWrong)

/-- 'breccialaw12.TableDirty': WHATEVER THE INPUT: true; the input reads as it did. -/
def tableDirtySpec : ChangeSpec := { name := "tableDirty", fn := fun _ => fun
  | [d1, d2] => { results := [.lit (.bool true)], args := [d1, d2] }
  | _ => none }
def tableDirtyRow : OpenClaim := { program := "ytbnmglonbhdcbaagreatdoor", sum := "10f6265530a029ddf1c4f14c429ec1f1730ecb145b96dc74b046e66c7027fd4e", func := "breccia/breccialaw12.TableDirty", spec := "tableDirty", inPlace := ["maps.clone"], unfollowed := true, recurses := true, named := ["internal/strconv.uint64pow10", "math/bits.deBruijn32tab", "math/bits.deBruijn64tab"], apart := false, laid := [("math/bits.deBruijn32tab", laid_math_bits_deBruijn32tab), ("math/bits.deBruijn64tab", laid_math_bits_deBruijn64tab), ("internal/strconv.uint64pow10", laid_internal_strconv_uint64pow10)] }
def TableDirtySaid : Prop := tableDirtyRow.holds Tryz.pinned (OpenSpec.ofChange tableDirtySpec)

/-- ITS FALSE NEIGHBOUR: 'it returns false'. Refute it at one input. -/
def tableDirtyWrong : ChangeSpec := { name := "tableDirty", fn := fun _ => fun
  | [d1, d2] => { results := [.lit (.bool false)], args := [d1, d2] }
  | _ => none }
def TableDirtyWrongFalsely : Prop := tableDirtyRow.holds Tryz.pinned (OpenSpec.ofChange tableDirtyWrong)

/-- 'breccialaw12.TableCrashes': WHATEVER THE INPUT: true; the input reads as it did. -/
def tableCrashesSpec : ChangeSpec := { name := "tableCrashes", fn := fun _ => fun
  | [d1, d2, d3, d4, d5] => { results := [.lit (.bool true)], args := [d1, d2, d3, d4, d5] }
  | _ => none }
def tableCrashesRow : OpenClaim := { program := "ytbnmglonbhdcbaagreatdoor", sum := "10f6265530a029ddf1c4f14c429ec1f1730ecb145b96dc74b046e66c7027fd4e", func := "breccia/breccialaw12.TableCrashes", spec := "tableCrashes", inPlace := ["maps.clone"], unfollowed := true, recurses := true, named := ["internal/strconv.uint64pow10", "math/bits.deBruijn32tab", "math/bits.deBruijn64tab"], apart := false, laid := [("math/bits.deBruijn32tab", laid_math_bits_deBruijn32tab), ("math/bits.deBruijn64tab", laid_math_bits_deBruijn64tab), ("internal/strconv.uint64pow10", laid_internal_strconv_uint64pow10)] }
def TableCrashesSaid : Prop := tableCrashesRow.holds Tryz.pinned (OpenSpec.ofChange tableCrashesSpec)

/-- ITS FALSE NEIGHBOUR: 'it returns false'. Refute it at one input. -/
def tableCrashesWrong : ChangeSpec := { name := "tableCrashes", fn := fun _ => fun
  | [d1, d2, d3, d4, d5] => { results := [.lit (.bool false)], args := [d1, d2, d3, d4, d5] }
  | _ => none }
def TableCrashesWrongFalsely : Prop := tableCrashesRow.holds Tryz.pinned (OpenSpec.ofChange tableCrashesWrong)

/-- 'breccialaw13.WorldOpen': WHATEVER THE INPUT: true; the input reads as it did. -/
def worldOpenSpec : ChangeSpec := { name := "worldOpen", fn := fun _ => fun
  | [d1, d2, d3, d4] => { results := [.lit (.bool true)], args := [d1, d2, d3, d4] }
  | _ => none }
def worldOpenRow : OpenClaim := { program := "ytbnmglonbhdcbaagreatdoor", sum := "10f6265530a029ddf1c4f14c429ec1f1730ecb145b96dc74b046e66c7027fd4e", func := "breccia/breccialaw13.WorldOpen", spec := "worldOpen", inPlace := ["maps.clone"], unfollowed := true, recurses := true, named := ["internal/strconv.uint64pow10", "math/bits.deBruijn32tab", "math/bits.deBruijn64tab"], apart := false, laid := [("math/bits.deBruijn32tab", laid_math_bits_deBruijn32tab), ("math/bits.deBruijn64tab", laid_math_bits_deBruijn64tab), ("internal/strconv.uint64pow10", laid_internal_strconv_uint64pow10)] }
def WorldOpenSaid : Prop := worldOpenRow.holds Tryz.pinned (OpenSpec.ofChange worldOpenSpec)

/-- ITS FALSE NEIGHBOUR: 'it returns false'. Refute it at one input. -/
def worldOpenWrong : ChangeSpec := { name := "worldOpen", fn := fun _ => fun
  | [d1, d2, d3, d4] => { results := [.lit (.bool false)], args := [d1, d2, d3, d4] }
  | _ => none }
def WorldOpenWrongFalsely : Prop := worldOpenRow.holds Tryz.pinned (OpenSpec.ofChange worldOpenWrong)

/-- 'breccialaw13.WorldPlays': WHATEVER THE INPUT: true; the input reads as it did. -/
def worldPlaysSpec : ChangeSpec := { name := "worldPlays", fn := fun _ => fun
  | [d1, d2, d3, d4] => { results := [.lit (.bool true)], args := [d1, d2, d3, d4] }
  | _ => none }
def worldPlaysRow : OpenClaim := { program := "ytbnmglonbhdcbaagreatdoor", sum := "10f6265530a029ddf1c4f14c429ec1f1730ecb145b96dc74b046e66c7027fd4e", func := "breccia/breccialaw13.WorldPlays", spec := "worldPlays", inPlace := ["maps.clone"], unfollowed := true, recurses := true, named := ["internal/strconv.uint64pow10", "math/bits.deBruijn32tab", "math/bits.deBruijn64tab"], apart := false, laid := [("math/bits.deBruijn32tab", laid_math_bits_deBruijn32tab), ("math/bits.deBruijn64tab", laid_math_bits_deBruijn64tab), ("internal/strconv.uint64pow10", laid_internal_strconv_uint64pow10)] }
def WorldPlaysSaid : Prop := worldPlaysRow.holds Tryz.pinned (OpenSpec.ofChange worldPlaysSpec)

/-- ITS FALSE NEIGHBOUR: 'it returns false'. Refute it at one input. -/
def worldPlaysWrong : ChangeSpec := { name := "worldPlays", fn := fun _ => fun
  | [d1, d2, d3, d4] => { results := [.lit (.bool false)], args := [d1, d2, d3, d4] }
  | _ => none }
def WorldPlaysWrongFalsely : Prop := worldPlaysRow.holds Tryz.pinned (OpenSpec.ofChange worldPlaysWrong)

/-- 'breccialaw12.TablePlays': WHATEVER THE INPUT: true; the input reads as it did. -/
def tablePlaysSpec : ChangeSpec := { name := "tablePlays", fn := fun _ => fun
  | [d1, d2, d3, d4] => { results := [.lit (.bool true)], args := [d1, d2, d3, d4] }
  | _ => none }
def tablePlaysRow : OpenClaim := { program := "ytbnmglonbhdcbaagreatdoor", sum := "10f6265530a029ddf1c4f14c429ec1f1730ecb145b96dc74b046e66c7027fd4e", func := "breccia/breccialaw12.TablePlays", spec := "tablePlays", inPlace := ["maps.clone"], unfollowed := true, recurses := true, named := ["internal/strconv.uint64pow10", "math/bits.deBruijn32tab", "math/bits.deBruijn64tab"], apart := false, laid := [("math/bits.deBruijn32tab", laid_math_bits_deBruijn32tab), ("math/bits.deBruijn64tab", laid_math_bits_deBruijn64tab), ("internal/strconv.uint64pow10", laid_internal_strconv_uint64pow10)] }
def TablePlaysSaid : Prop := tablePlaysRow.holds Tryz.pinned (OpenSpec.ofChange tablePlaysSpec)

/-- ITS FALSE NEIGHBOUR: 'it returns false'. Refute it at one input. -/
def tablePlaysWrong : ChangeSpec := { name := "tablePlays", fn := fun _ => fun
  | [d1, d2, d3, d4] => { results := [.lit (.bool false)], args := [d1, d2, d3, d4] }
  | _ => none }
def TablePlaysWrongFalsely : Prop := tablePlaysRow.holds Tryz.pinned (OpenSpec.ofChange tablePlaysWrong)

/- THE SECOND FORM. 'bulk': how many values and letters a reading holds, each counted each time it is reached (what is shared counts as often as it is met; a slice's spare places count too). A statement '..UptoSaid' is the law's where the arguments, and the package variables that the reading takes, are together of bulk at most 1048576: NARROWER than '..Said'. Prove '..Said' where nothing that the law and all that it calls make is longer than what came in: it says more and counts as full. Else prove '..UptoSaid'. A law counts once. -/
mutual
def uptoBulk {H : Type} : DataW H → Nat
  | .lit (.string bytes) => bytes.length + 1
  | .lit _ => 1
  | .nil => 1
  | .ptr d => uptoBulk d + 1
  | .slice elems spare => uptoBulkAll elems + uptoBulkAll spare + 1
  | .agg parts => uptoBulkAll parts + 1
  | .iface _ d => uptoBulk d + 1
  | .map entries => uptoBulkEntries entries + 1
  | .held _ => 1
def uptoBulkAll {H : Type} : List (DataW H) → Nat
  | [] => 0
  | d :: r => uptoBulk d + uptoBulkAll r
def uptoBulkEntries {H : Type} : List (Lit × DataW H) → Nat
  | [] => 0
  | x :: r => uptoBulkEntry x + uptoBulkEntries r
def uptoBulkEntry {H : Type} : Lit × DataW H → Nat
  | (.string bytes, d) => bytes.length + uptoBulk d + 1
  | (_, d) => uptoBulk d + 1
 end
def uptoSmall : (H : Type) → List (DataW H) → Bool := fun _ ds => decide (uptoBulkAll ds ≤ 1048576)
def OpenSpec.upto (s : _root_.Go.ChangeSpec) : _root_.Go.OpenSpec := { _root_.Go.OpenSpec.ofChange s with cond := some uptoSmall }

/-- 'breccialaw13.WorldViews', WHERE WHAT IT READS IS OF BULK AT MOST 1048576: true; the input reads as it did. -/
def worldViewsUptoRow : OpenClaim := { program := "ytbnmglonbhdcbaagreatdoor", sum := "10f6265530a029ddf1c4f14c429ec1f1730ecb145b96dc74b046e66c7027fd4e", func := "breccia/breccialaw13.WorldViews", spec := "worldViews", inPlace := ["maps.clone"], unfollowed := true, recurses := true, named := ["internal/strconv.uint64pow10", "math/bits.deBruijn32tab", "math/bits.deBruijn64tab"], apart := false, laid := [("math/bits.deBruijn32tab", laid_math_bits_deBruijn32tab), ("math/bits.deBruijn64tab", laid_math_bits_deBruijn64tab), ("internal/strconv.uint64pow10", laid_internal_strconv_uint64pow10)], narrowed := true }
def WorldViewsUptoSaid : Prop := worldViewsUptoRow.holds Tryz.pinned (OpenSpec.upto worldViewsSpec)

/-- 'breccialaw12.TableCaches', WHERE WHAT IT READS IS OF BULK AT MOST 1048576: true; the input reads as it did. -/
def tableCachesUptoRow : OpenClaim := { program := "ytbnmglonbhdcbaagreatdoor", sum := "10f6265530a029ddf1c4f14c429ec1f1730ecb145b96dc74b046e66c7027fd4e", func := "breccia/breccialaw12.TableCaches", spec := "tableCaches", inPlace := ["maps.clone"], unfollowed := true, recurses := true, named := ["internal/strconv.uint64pow10", "math/bits.deBruijn32tab", "math/bits.deBruijn64tab"], apart := false, laid := [("math/bits.deBruijn32tab", laid_math_bits_deBruijn32tab), ("math/bits.deBruijn64tab", laid_math_bits_deBruijn64tab), ("internal/strconv.uint64pow10", laid_internal_strconv_uint64pow10)], narrowed := true }
def TableCachesUptoSaid : Prop := tableCachesUptoRow.holds Tryz.pinned (OpenSpec.upto tableCachesSpec)

/-- 'breccialaw13.WorldTwice', WHERE WHAT IT READS IS OF BULK AT MOST 1048576: true; the input reads as it did. -/
def worldTwiceUptoRow : OpenClaim := { program := "ytbnmglonbhdcbaagreatdoor", sum := "10f6265530a029ddf1c4f14c429ec1f1730ecb145b96dc74b046e66c7027fd4e", func := "breccia/breccialaw13.WorldTwice", spec := "worldTwice", inPlace := ["maps.clone"], unfollowed := true, recurses := true, named := ["internal/strconv.uint64pow10", "math/bits.deBruijn32tab", "math/bits.deBruijn64tab"], apart := false, laid := [("math/bits.deBruijn32tab", laid_math_bits_deBruijn32tab), ("math/bits.deBruijn64tab", laid_math_bits_deBruijn64tab), ("internal/strconv.uint64pow10", laid_internal_strconv_uint64pow10)], narrowed := true }
def WorldTwiceUptoSaid : Prop := worldTwiceUptoRow.holds Tryz.pinned (OpenSpec.upto worldTwiceSpec)

/-- 'breccialaw13.WorldChanges', WHERE WHAT IT READS IS OF BULK AT MOST 1048576: true; the input reads as it did. -/
def worldChangesUptoRow : OpenClaim := { program := "ytbnmglonbhdcbaagreatdoor", sum := "10f6265530a029ddf1c4f14c429ec1f1730ecb145b96dc74b046e66c7027fd4e", func := "breccia/breccialaw13.WorldChanges", spec := "worldChanges", inPlace := ["maps.clone"], unfollowed := true, recurses := true, named := ["internal/strconv.uint64pow10", "math/bits.deBruijn32tab", "math/bits.deBruijn64tab"], apart := false, laid := [("math/bits.deBruijn32tab", laid_math_bits_deBruijn32tab), ("math/bits.deBruijn64tab", laid_math_bits_deBruijn64tab), ("internal/strconv.uint64pow10", laid_internal_strconv_uint64pow10)], narrowed := true }
def WorldChangesUptoSaid : Prop := worldChangesUptoRow.holds Tryz.pinned (OpenSpec.upto worldChangesSpec)

/-- 'breccialaw12.TableDirty', WHERE WHAT IT READS IS OF BULK AT MOST 1048576: true; the input reads as it did. -/
def tableDirtyUptoRow : OpenClaim := { program := "ytbnmglonbhdcbaagreatdoor", sum := "10f6265530a029ddf1c4f14c429ec1f1730ecb145b96dc74b046e66c7027fd4e", func := "breccia/breccialaw12.TableDirty", spec := "tableDirty", inPlace := ["maps.clone"], unfollowed := true, recurses := true, named := ["internal/strconv.uint64pow10", "math/bits.deBruijn32tab", "math/bits.deBruijn64tab"], apart := false, laid := [("math/bits.deBruijn32tab", laid_math_bits_deBruijn32tab), ("math/bits.deBruijn64tab", laid_math_bits_deBruijn64tab), ("internal/strconv.uint64pow10", laid_internal_strconv_uint64pow10)], narrowed := true }
def TableDirtyUptoSaid : Prop := tableDirtyUptoRow.holds Tryz.pinned (OpenSpec.upto tableDirtySpec)

/-- 'breccialaw12.TableCrashes', WHERE WHAT IT READS IS OF BULK AT MOST 1048576: true; the input reads as it did. -/
def tableCrashesUptoRow : OpenClaim := { program := "ytbnmglonbhdcbaagreatdoor", sum := "10f6265530a029ddf1c4f14c429ec1f1730ecb145b96dc74b046e66c7027fd4e", func := "breccia/breccialaw12.TableCrashes", spec := "tableCrashes", inPlace := ["maps.clone"], unfollowed := true, recurses := true, named := ["internal/strconv.uint64pow10", "math/bits.deBruijn32tab", "math/bits.deBruijn64tab"], apart := false, laid := [("math/bits.deBruijn32tab", laid_math_bits_deBruijn32tab), ("math/bits.deBruijn64tab", laid_math_bits_deBruijn64tab), ("internal/strconv.uint64pow10", laid_internal_strconv_uint64pow10)], narrowed := true }
def TableCrashesUptoSaid : Prop := tableCrashesUptoRow.holds Tryz.pinned (OpenSpec.upto tableCrashesSpec)

/-- 'breccialaw13.WorldOpen', WHERE WHAT IT READS IS OF BULK AT MOST 1048576: true; the input reads as it did. -/
def worldOpenUptoRow : OpenClaim := { program := "ytbnmglonbhdcbaagreatdoor", sum := "10f6265530a029ddf1c4f14c429ec1f1730ecb145b96dc74b046e66c7027fd4e", func := "breccia/breccialaw13.WorldOpen", spec := "worldOpen", inPlace := ["maps.clone"], unfollowed := true, recurses := true, named := ["internal/strconv.uint64pow10", "math/bits.deBruijn32tab", "math/bits.deBruijn64tab"], apart := false, laid := [("math/bits.deBruijn32tab", laid_math_bits_deBruijn32tab), ("math/bits.deBruijn64tab", laid_math_bits_deBruijn64tab), ("internal/strconv.uint64pow10", laid_internal_strconv_uint64pow10)], narrowed := true }
def WorldOpenUptoSaid : Prop := worldOpenUptoRow.holds Tryz.pinned (OpenSpec.upto worldOpenSpec)

/-- 'breccialaw13.WorldPlays', WHERE WHAT IT READS IS OF BULK AT MOST 1048576: true; the input reads as it did. -/
def worldPlaysUptoRow : OpenClaim := { program := "ytbnmglonbhdcbaagreatdoor", sum := "10f6265530a029ddf1c4f14c429ec1f1730ecb145b96dc74b046e66c7027fd4e", func := "breccia/breccialaw13.WorldPlays", spec := "worldPlays", inPlace := ["maps.clone"], unfollowed := true, recurses := true, named := ["internal/strconv.uint64pow10", "math/bits.deBruijn32tab", "math/bits.deBruijn64tab"], apart := false, laid := [("math/bits.deBruijn32tab", laid_math_bits_deBruijn32tab), ("math/bits.deBruijn64tab", laid_math_bits_deBruijn64tab), ("internal/strconv.uint64pow10", laid_internal_strconv_uint64pow10)], narrowed := true }
def WorldPlaysUptoSaid : Prop := worldPlaysUptoRow.holds Tryz.pinned (OpenSpec.upto worldPlaysSpec)

/-- 'breccialaw12.TablePlays', WHERE WHAT IT READS IS OF BULK AT MOST 1048576: true; the input reads as it did. -/
def tablePlaysUptoRow : OpenClaim := { program := "ytbnmglonbhdcbaagreatdoor", sum := "10f6265530a029ddf1c4f14c429ec1f1730ecb145b96dc74b046e66c7027fd4e", func := "breccia/breccialaw12.TablePlays", spec := "tablePlays", inPlace := ["maps.clone"], unfollowed := true, recurses := true, named := ["internal/strconv.uint64pow10", "math/bits.deBruijn32tab", "math/bits.deBruijn64tab"], apart := false, laid := [("math/bits.deBruijn32tab", laid_math_bits_deBruijn32tab), ("math/bits.deBruijn64tab", laid_math_bits_deBruijn64tab), ("internal/strconv.uint64pow10", laid_internal_strconv_uint64pow10)], narrowed := true }
def TablePlaysUptoSaid : Prop := tablePlaysUptoRow.holds Tryz.pinned (OpenSpec.upto tablePlaysSpec)

end Rows
end Go.Proofs.YtbnmglonbhdcbaaGreatDoor
