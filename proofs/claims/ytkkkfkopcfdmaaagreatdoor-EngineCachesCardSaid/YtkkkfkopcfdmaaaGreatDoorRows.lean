/-
  NARROWER THAN 'FOR EVERY INPUT', by the rows' own cells (each row's printed sentence says how): EngineSpawns: laid · EnginePlays: laid · EngineFree: laid · EngineCaches: laid · EngineReach: laid · EngineCrashes: laid.
  DERIVED. THE GIVEN ROWS OF THIS SEAT. 6 by the template 'for every input the law returns true; each argument reads behind the call as it read before'; 0 by the template 'total and deterministic' (their statements: YtkkkfkopcfdmaaaGreatDoorTotals.lean).
  GIVEN WITH THE SEED: the statements are not yours to turn. If you find one false, say at which input.
  Laid BY PROGRAM, IN A SANDBOX (cutbox-rows.mjs): the forced cells as the released guide's own fill.sh prints them over the translation d873a9baf5050c0b… (all of the seat's roots in one cut). By AI agents, Wed Nov 11 2026. No macro, syntax, notation, axiom, sorry.
-/
import Derived.Test.YtkkkfkopcfdmaaaGreatDoorChecked
import GoSem.Claim
import GoSem.ClaimJoined
import GoSem.ClaimMapViews
import Derived.JoinedTies
import Derived.KernelRfl
namespace Go.Proofs.YtkkkfkopcfdmaaaGreatDoor
/- THE CELL 'sum', in the pinned program and in every row, IS THE sha256 OF THE DUMP (.gsa) THAT YtkkkfkopcfdmaaaGreatDoorProg.lean LOADS. Nothing in Lean hashes anything: it is a label: what it is worth is what the hold of that sum in a sandbox is worth. -/
noncomputable def Tryz.pinned : Pinned := { name := "ytkkkfkopcfdmaaagreatdoor", sum := "d873a9baf5050c0be76dd5e1aa236c2c91bf954bd687691c035bb1adb1bbe099", checked := Tryz.checked }
namespace Rows
def none {H : Type} : Left H := { results := [], args := [] }

/- WHAT THE LISTED PACKAGE-LEVEL VARIABLES READ AS WHEN THE CALL BEGINS. Each datum BY PROGRAM (the guide's laid-datum.mjs) off the statement by which the dump's own 'gosem.cut.vars' lays the variable. In a bare row this is a premise. The card (YtkkkfkopcfdmaaaGreatDoorCards.lean) ties it to the program's text. -/
def laid_math_bits_deBruijn32tab {H : Type} : DataW H := .agg [.lit (.int .u8 0), .lit (.int .u8 1), .lit (.int .u8 28), .lit (.int .u8 2), .lit (.int .u8 29), .lit (.int .u8 14), .lit (.int .u8 24), .lit (.int .u8 3), .lit (.int .u8 30), .lit (.int .u8 22), .lit (.int .u8 20), .lit (.int .u8 15), .lit (.int .u8 25), .lit (.int .u8 17), .lit (.int .u8 4), .lit (.int .u8 8), .lit (.int .u8 31), .lit (.int .u8 27), .lit (.int .u8 13), .lit (.int .u8 23), .lit (.int .u8 21), .lit (.int .u8 19), .lit (.int .u8 16), .lit (.int .u8 7), .lit (.int .u8 26), .lit (.int .u8 12), .lit (.int .u8 18), .lit (.int .u8 6), .lit (.int .u8 11), .lit (.int .u8 5), .lit (.int .u8 10), .lit (.int .u8 9)]
def laid_math_bits_deBruijn64tab {H : Type} : DataW H := .agg [.lit (.int .u8 0), .lit (.int .u8 1), .lit (.int .u8 56), .lit (.int .u8 2), .lit (.int .u8 57), .lit (.int .u8 49), .lit (.int .u8 28), .lit (.int .u8 3), .lit (.int .u8 61), .lit (.int .u8 58), .lit (.int .u8 42), .lit (.int .u8 50), .lit (.int .u8 38), .lit (.int .u8 29), .lit (.int .u8 17), .lit (.int .u8 4), .lit (.int .u8 62), .lit (.int .u8 47), .lit (.int .u8 59), .lit (.int .u8 36), .lit (.int .u8 45), .lit (.int .u8 43), .lit (.int .u8 51), .lit (.int .u8 22), .lit (.int .u8 53), .lit (.int .u8 39), .lit (.int .u8 33), .lit (.int .u8 30), .lit (.int .u8 24), .lit (.int .u8 18), .lit (.int .u8 12), .lit (.int .u8 5), .lit (.int .u8 63), .lit (.int .u8 55), .lit (.int .u8 48), .lit (.int .u8 27), .lit (.int .u8 60), .lit (.int .u8 41), .lit (.int .u8 37), .lit (.int .u8 16), .lit (.int .u8 46), .lit (.int .u8 35), .lit (.int .u8 44), .lit (.int .u8 21), .lit (.int .u8 52), .lit (.int .u8 32), .lit (.int .u8 23), .lit (.int .u8 11), .lit (.int .u8 54), .lit (.int .u8 26), .lit (.int .u8 40), .lit (.int .u8 15), .lit (.int .u8 34), .lit (.int .u8 20), .lit (.int .u8 31), .lit (.int .u8 10), .lit (.int .u8 25), .lit (.int .u8 14), .lit (.int .u8 19), .lit (.int .u8 9), .lit (.int .u8 13), .lit (.int .u8 8), .lit (.int .u8 7), .lit (.int .u8 6)]
def laid_internal_strconv_uint64pow10 {H : Type} : DataW H := .agg [.lit (.int .u64 1), .lit (.int .u64 10), .lit (.int .u64 100), .lit (.int .u64 1000), .lit (.int .u64 10000), .lit (.int .u64 100000), .lit (.int .u64 1000000), .lit (.int .u64 10000000), .lit (.int .u64 100000000), .lit (.int .u64 1000000000), .lit (.int .u64 10000000000), .lit (.int .u64 100000000000), .lit (.int .u64 1000000000000), .lit (.int .u64 10000000000000), .lit (.int .u64 100000000000000), .lit (.int .u64 1000000000000000), .lit (.int .u64 10000000000000000), .lit (.int .u64 100000000000000000), .lit (.int .u64 1000000000000000000), .lit (.int .u64 10000000000000000000)]

/-- 'breccialaw21.EngineSpawns': WHATEVER THE INPUT: true; the input reads as it did. -/
def engineSpawnsSpec : ChangeSpec := { name := "engineSpawns", fn := fun _ => fun
  | [d1, d2] => { results := [.lit (.bool true)], args := [d1, d2] }
  | _ => none }
def engineSpawnsRow : OpenClaim := { program := "ytkkkfkopcfdmaaagreatdoor", sum := "d873a9baf5050c0be76dd5e1aa236c2c91bf954bd687691c035bb1adb1bbe099", func := "breccia/breccialaw21.EngineSpawns", spec := "engineSpawns", inPlace := ["maps.clone"], unfollowed := true, recurses := true, named := ["internal/strconv.uint64pow10", "math/bits.deBruijn32tab", "math/bits.deBruijn64tab"], plainKeys := false, apart := false, laid := [("math/bits.deBruijn32tab", laid_math_bits_deBruijn32tab), ("math/bits.deBruijn64tab", laid_math_bits_deBruijn64tab), ("internal/strconv.uint64pow10", laid_internal_strconv_uint64pow10)] }
def EngineSpawnsSaid : Prop := engineSpawnsRow.holds Tryz.pinned (OpenSpec.ofChange engineSpawnsSpec)

/-- ITS FALSE NEIGHBOUR: 'it returns false'. Refute it at one input. -/
def engineSpawnsWrong : ChangeSpec := { name := "engineSpawns", fn := fun _ => fun
  | [d1, d2] => { results := [.lit (.bool false)], args := [d1, d2] }
  | _ => none }
def EngineSpawnsWrongFalsely : Prop := engineSpawnsRow.holds Tryz.pinned (OpenSpec.ofChange engineSpawnsWrong)

/-- 'breccialaw21.EnginePlays': WHATEVER THE INPUT: true; the input reads as it did. -/
def enginePlaysSpec : ChangeSpec := { name := "enginePlays", fn := fun _ => fun
  | [d1, d2, d3] => { results := [.lit (.bool true)], args := [d1, d2, d3] }
  | _ => none }
def enginePlaysRow : OpenClaim := { program := "ytkkkfkopcfdmaaagreatdoor", sum := "d873a9baf5050c0be76dd5e1aa236c2c91bf954bd687691c035bb1adb1bbe099", func := "breccia/breccialaw21.EnginePlays", spec := "enginePlays", inPlace := ["maps.clone", "slices.overlaps[breccia/queue.Item]"], unfollowed := true, recurses := true, named := ["internal/strconv.uint64pow10", "math/bits.deBruijn32tab", "math/bits.deBruijn64tab"], plainKeys := false, apart := false, laid := [("math/bits.deBruijn32tab", laid_math_bits_deBruijn32tab), ("math/bits.deBruijn64tab", laid_math_bits_deBruijn64tab), ("internal/strconv.uint64pow10", laid_internal_strconv_uint64pow10)] }
def EnginePlaysSaid : Prop := enginePlaysRow.holds Tryz.pinned (OpenSpec.ofChange enginePlaysSpec)

/-- ITS FALSE NEIGHBOUR: 'it returns false'. Refute it at one input. -/
def enginePlaysWrong : ChangeSpec := { name := "enginePlays", fn := fun _ => fun
  | [d1, d2, d3] => { results := [.lit (.bool false)], args := [d1, d2, d3] }
  | _ => none }
def EnginePlaysWrongFalsely : Prop := enginePlaysRow.holds Tryz.pinned (OpenSpec.ofChange enginePlaysWrong)

/-- 'breccialaw21.EngineFree': WHATEVER THE INPUT: true; the input reads as it did. -/
def engineFreeSpec : ChangeSpec := { name := "engineFree", fn := fun _ => fun
  | [d1, d2, d3] => { results := [.lit (.bool true)], args := [d1, d2, d3] }
  | _ => none }
def engineFreeRow : OpenClaim := { program := "ytkkkfkopcfdmaaagreatdoor", sum := "d873a9baf5050c0be76dd5e1aa236c2c91bf954bd687691c035bb1adb1bbe099", func := "breccia/breccialaw21.EngineFree", spec := "engineFree", inPlace := ["maps.clone", "slices.overlaps[breccia/queue.Item]"], unfollowed := true, recurses := true, named := ["internal/strconv.uint64pow10", "math/bits.deBruijn32tab", "math/bits.deBruijn64tab"], plainKeys := false, apart := false, laid := [("math/bits.deBruijn32tab", laid_math_bits_deBruijn32tab), ("math/bits.deBruijn64tab", laid_math_bits_deBruijn64tab), ("internal/strconv.uint64pow10", laid_internal_strconv_uint64pow10)] }
def EngineFreeSaid : Prop := engineFreeRow.holds Tryz.pinned (OpenSpec.ofChange engineFreeSpec)

/-- ITS FALSE NEIGHBOUR: 'it returns false'. Refute it at one input. -/
def engineFreeWrong : ChangeSpec := { name := "engineFree", fn := fun _ => fun
  | [d1, d2, d3] => { results := [.lit (.bool false)], args := [d1, d2, d3] }
  | _ => none }
def EngineFreeWrongFalsely : Prop := engineFreeRow.holds Tryz.pinned (OpenSpec.ofChange engineFreeWrong)

/-- 'breccialaw21.EngineCaches': WHATEVER THE INPUT: true; the input reads as it did. -/
def engineCachesSpec : ChangeSpec := { name := "engineCaches", fn := fun _ => fun
  | [d1, d2, d3] => { results := [.lit (.bool true)], args := [d1, d2, d3] }
  | _ => none }
def engineCachesRow : OpenClaim := { program := "ytkkkfkopcfdmaaagreatdoor", sum := "d873a9baf5050c0be76dd5e1aa236c2c91bf954bd687691c035bb1adb1bbe099", func := "breccia/breccialaw21.EngineCaches", spec := "engineCaches", inPlace := ["maps.clone", "slices.overlaps[breccia/queue.Item]"], unfollowed := true, recurses := true, named := ["internal/strconv.uint64pow10", "math/bits.deBruijn32tab", "math/bits.deBruijn64tab"], plainKeys := false, apart := false, laid := [("math/bits.deBruijn32tab", laid_math_bits_deBruijn32tab), ("math/bits.deBruijn64tab", laid_math_bits_deBruijn64tab), ("internal/strconv.uint64pow10", laid_internal_strconv_uint64pow10)] }
def EngineCachesSaid : Prop := engineCachesRow.holds Tryz.pinned (OpenSpec.ofChange engineCachesSpec)

/-- ITS FALSE NEIGHBOUR: 'it returns false'. Refute it at one input. -/
def engineCachesWrong : ChangeSpec := { name := "engineCaches", fn := fun _ => fun
  | [d1, d2, d3] => { results := [.lit (.bool false)], args := [d1, d2, d3] }
  | _ => none }
def EngineCachesWrongFalsely : Prop := engineCachesRow.holds Tryz.pinned (OpenSpec.ofChange engineCachesWrong)

/-- 'breccialaw21.EngineReach': WHATEVER THE INPUT: true; the input reads as it did. -/
def engineReachSpec : ChangeSpec := { name := "engineReach", fn := fun _ => fun
  | [d1, d2, d3] => { results := [.lit (.bool true)], args := [d1, d2, d3] }
  | _ => none }
def engineReachRow : OpenClaim := { program := "ytkkkfkopcfdmaaagreatdoor", sum := "d873a9baf5050c0be76dd5e1aa236c2c91bf954bd687691c035bb1adb1bbe099", func := "breccia/breccialaw21.EngineReach", spec := "engineReach", inPlace := ["maps.clone", "slices.overlaps[breccia/queue.Item]"], unfollowed := true, recurses := true, named := ["internal/strconv.uint64pow10", "math/bits.deBruijn32tab", "math/bits.deBruijn64tab"], plainKeys := false, apart := false, laid := [("math/bits.deBruijn32tab", laid_math_bits_deBruijn32tab), ("math/bits.deBruijn64tab", laid_math_bits_deBruijn64tab), ("internal/strconv.uint64pow10", laid_internal_strconv_uint64pow10)] }
def EngineReachSaid : Prop := engineReachRow.holds Tryz.pinned (OpenSpec.ofChange engineReachSpec)

/-- ITS FALSE NEIGHBOUR: 'it returns false'. Refute it at one input. -/
def engineReachWrong : ChangeSpec := { name := "engineReach", fn := fun _ => fun
  | [d1, d2, d3] => { results := [.lit (.bool false)], args := [d1, d2, d3] }
  | _ => none }
def EngineReachWrongFalsely : Prop := engineReachRow.holds Tryz.pinned (OpenSpec.ofChange engineReachWrong)

/-- 'breccialaw21.EngineCrashes': WHATEVER THE INPUT: true; the input reads as it did. -/
def engineCrashesSpec : ChangeSpec := { name := "engineCrashes", fn := fun _ => fun
  | [d1, d2, d3, d4, d5] => { results := [.lit (.bool true)], args := [d1, d2, d3, d4, d5] }
  | _ => none }
def engineCrashesRow : OpenClaim := { program := "ytkkkfkopcfdmaaagreatdoor", sum := "d873a9baf5050c0be76dd5e1aa236c2c91bf954bd687691c035bb1adb1bbe099", func := "breccia/breccialaw21.EngineCrashes", spec := "engineCrashes", inPlace := ["maps.clone", "slices.overlaps[breccia/queue.Item]"], unfollowed := true, recurses := true, named := ["internal/strconv.uint64pow10", "math/bits.deBruijn32tab", "math/bits.deBruijn64tab"], plainKeys := false, apart := false, laid := [("math/bits.deBruijn32tab", laid_math_bits_deBruijn32tab), ("math/bits.deBruijn64tab", laid_math_bits_deBruijn64tab), ("internal/strconv.uint64pow10", laid_internal_strconv_uint64pow10)] }
def EngineCrashesSaid : Prop := engineCrashesRow.holds Tryz.pinned (OpenSpec.ofChange engineCrashesSpec)

/-- ITS FALSE NEIGHBOUR: 'it returns false'. Refute it at one input. -/
def engineCrashesWrong : ChangeSpec := { name := "engineCrashes", fn := fun _ => fun
  | [d1, d2, d3, d4, d5] => { results := [.lit (.bool false)], args := [d1, d2, d3, d4, d5] }
  | _ => none }
def EngineCrashesWrongFalsely : Prop := engineCrashesRow.holds Tryz.pinned (OpenSpec.ofChange engineCrashesWrong)

/- THE SECOND FORM. 'bulk': how many values and letters a reading holds, each counted each time it is reached (what is shared counts as often as it is met; a slice's spare places count too). A statement '..UptoSaid' is the law's where the arguments, and the package variables that the reading takes, are together of bulk at most 1048576: NARROWER than '..Said'. Prove '..Said' where nothing that the law and all that it calls make is longer than what came in: it says more and counts as full. Else prove '..UptoSaid'. A law counts once. -/
mutual
def uptoBulk {H : Type} : DataW H → Nat
  | .lit (.string bytes) => bytes.length + 1
  | .lit _ => 1
  | .nil => 1
  | .ptr d => uptoBulk d + 1
  | .slice elems spare => uptoBulkAll elems + uptoBulkAll spare + 1
  | .agg parts => uptoBulkAll parts + 1
  | .iface _ d => uptoBulk d + 1
  | .map entries => uptoBulkEntries entries + 1
  | .held _ => 1
def uptoBulkAll {H : Type} : List (DataW H) → Nat
  | [] => 0
  | d :: r => uptoBulk d + uptoBulkAll r
def uptoBulkEntries {H : Type} : List (Lit × DataW H) → Nat
  | [] => 0
  | x :: r => uptoBulkEntry x + uptoBulkEntries r
def uptoBulkEntry {H : Type} : Lit × DataW H → Nat
  | (.string bytes, d) => bytes.length + uptoBulk d + 1
  | (_, d) => uptoBulk d + 1
 end
def uptoSmall : (H : Type) → List (DataW H) → Bool := fun _ ds => decide (uptoBulkAll ds ≤ 1048576)
def OpenSpec.upto (s : _root_.Go.ChangeSpec) : _root_.Go.OpenSpec := { _root_.Go.OpenSpec.ofChange s with cond := some uptoSmall }

/-- 'breccialaw21.EngineSpawns', WHERE WHAT IT READS IS OF BULK AT MOST 1048576: true; the input reads as it did. -/
def engineSpawnsUptoRow : OpenClaim := { program := "ytkkkfkopcfdmaaagreatdoor", sum := "d873a9baf5050c0be76dd5e1aa236c2c91bf954bd687691c035bb1adb1bbe099", func := "breccia/breccialaw21.EngineSpawns", spec := "engineSpawns", inPlace := ["maps.clone"], unfollowed := true, recurses := true, named := ["internal/strconv.uint64pow10", "math/bits.deBruijn32tab", "math/bits.deBruijn64tab"], plainKeys := false, apart := false, laid := [("math/bits.deBruijn32tab", laid_math_bits_deBruijn32tab), ("math/bits.deBruijn64tab", laid_math_bits_deBruijn64tab), ("internal/strconv.uint64pow10", laid_internal_strconv_uint64pow10)], narrowed := true }
def EngineSpawnsUptoSaid : Prop := engineSpawnsUptoRow.holds Tryz.pinned (OpenSpec.upto engineSpawnsSpec)

/-- 'breccialaw21.EnginePlays', WHERE WHAT IT READS IS OF BULK AT MOST 1048576: true; the input reads as it did. -/
def enginePlaysUptoRow : OpenClaim := { program := "ytkkkfkopcfdmaaagreatdoor", sum := "d873a9baf5050c0be76dd5e1aa236c2c91bf954bd687691c035bb1adb1bbe099", func := "breccia/breccialaw21.EnginePlays", spec := "enginePlays", inPlace := ["maps.clone", "slices.overlaps[breccia/queue.Item]"], unfollowed := true, recurses := true, named := ["internal/strconv.uint64pow10", "math/bits.deBruijn32tab", "math/bits.deBruijn64tab"], plainKeys := false, apart := false, laid := [("math/bits.deBruijn32tab", laid_math_bits_deBruijn32tab), ("math/bits.deBruijn64tab", laid_math_bits_deBruijn64tab), ("internal/strconv.uint64pow10", laid_internal_strconv_uint64pow10)], narrowed := true }
def EnginePlaysUptoSaid : Prop := enginePlaysUptoRow.holds Tryz.pinned (OpenSpec.upto enginePlaysSpec)

/-- 'breccialaw21.EngineFree', WHERE WHAT IT READS IS OF BULK AT MOST 1048576: true; the input reads as it did. -/
def engineFreeUptoRow : OpenClaim := { program := "ytkkkfkopcfdmaaagreatdoor", sum := "d873a9baf5050c0be76dd5e1aa236c2c91bf954bd687691c035bb1adb1bbe099", func := "breccia/breccialaw21.EngineFree", spec := "engineFree", inPlace := ["maps.clone", "slices.overlaps[breccia/queue.Item]"], unfollowed := true, recurses := true, named := ["internal/strconv.uint64pow10", "math/bits.deBruijn32tab", "math/bits.deBruijn64tab"], plainKeys := false, apart := false, laid := [("math/bits.deBruijn32tab", laid_math_bits_deBruijn32tab), ("math/bits.deBruijn64tab", laid_math_bits_deBruijn64tab), ("internal/strconv.uint64pow10", laid_internal_strconv_uint64pow10)], narrowed := true }
def EngineFreeUptoSaid : Prop := engineFreeUptoRow.holds Tryz.pinned (OpenSpec.upto engineFreeSpec)

/-- 'breccialaw21.EngineCaches', WHERE WHAT IT READS IS OF BULK AT MOST 1048576: true; the input reads as it did. -/
def engineCachesUptoRow : OpenClaim := { program := "ytkkkfkopcfdmaaagreatdoor", sum := "d873a9baf5050c0be76dd5e1aa236c2c91bf954bd687691c035bb1adb1bbe099", func := "breccia/breccialaw21.EngineCaches", spec := "engineCaches", inPlace := ["maps.clone", "slices.overlaps[breccia/queue.Item]"], unfollowed := true, recurses := true, named := ["internal/strconv.uint64pow10", "math/bits.deBruijn32tab", "math/bits.deBruijn64tab"], plainKeys := false, apart := false, laid := [("math/bits.deBruijn32tab", laid_math_bits_deBruijn32tab), ("math/bits.deBruijn64tab", laid_math_bits_deBruijn64tab), ("internal/strconv.uint64pow10", laid_internal_strconv_uint64pow10)], narrowed := true }
def EngineCachesUptoSaid : Prop := engineCachesUptoRow.holds Tryz.pinned (OpenSpec.upto engineCachesSpec)

/-- 'breccialaw21.EngineReach', WHERE WHAT IT READS IS OF BULK AT MOST 1048576: true; the input reads as it did. -/
def engineReachUptoRow : OpenClaim := { program := "ytkkkfkopcfdmaaagreatdoor", sum := "d873a9baf5050c0be76dd5e1aa236c2c91bf954bd687691c035bb1adb1bbe099", func := "breccia/breccialaw21.EngineReach", spec := "engineReach", inPlace := ["maps.clone", "slices.overlaps[breccia/queue.Item]"], unfollowed := true, recurses := true, named := ["internal/strconv.uint64pow10", "math/bits.deBruijn32tab", "math/bits.deBruijn64tab"], plainKeys := false, apart := false, laid := [("math/bits.deBruijn32tab", laid_math_bits_deBruijn32tab), ("math/bits.deBruijn64tab", laid_math_bits_deBruijn64tab), ("internal/strconv.uint64pow10", laid_internal_strconv_uint64pow10)], narrowed := true }
def EngineReachUptoSaid : Prop := engineReachUptoRow.holds Tryz.pinned (OpenSpec.upto engineReachSpec)

/-- 'breccialaw21.EngineCrashes', WHERE WHAT IT READS IS OF BULK AT MOST 1048576: true; the input reads as it did. -/
def engineCrashesUptoRow : OpenClaim := { program := "ytkkkfkopcfdmaaagreatdoor", sum := "d873a9baf5050c0be76dd5e1aa236c2c91bf954bd687691c035bb1adb1bbe099", func := "breccia/breccialaw21.EngineCrashes", spec := "engineCrashes", inPlace := ["maps.clone", "slices.overlaps[breccia/queue.Item]"], unfollowed := true, recurses := true, named := ["internal/strconv.uint64pow10", "math/bits.deBruijn32tab", "math/bits.deBruijn64tab"], plainKeys := false, apart := false, laid := [("math/bits.deBruijn32tab", laid_math_bits_deBruijn32tab), ("math/bits.deBruijn64tab", laid_math_bits_deBruijn64tab), ("internal/strconv.uint64pow10", laid_internal_strconv_uint64pow10)], narrowed := true }
def EngineCrashesUptoSaid : Prop := engineCrashesUptoRow.holds Tryz.pinned (OpenSpec.upto engineCrashesSpec)

end Rows
end Go.Proofs.YtkkkfkopcfdmaaaGreatDoor
