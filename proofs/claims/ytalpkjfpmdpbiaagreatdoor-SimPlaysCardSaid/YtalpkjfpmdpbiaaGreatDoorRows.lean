/-
  NARROWER THAN 'FOR EVERY INPUT', by the rows' own cells (each row's printed sentence says how): SimSand: laid · SimOccupied: laid · SimStill: laid · SimRestores: laid · SimBudgets: laid · SimPlays: laid.
  DERIVED. THE GIVEN ROWS OF THIS SEAT. 6 by the template 'for every input the law returns true; each argument reads behind the call as it read before'; 0 by the template 'total and deterministic' (their statements: YtalpkjfpmdpbiaaGreatDoorTotals.lean).
  GIVEN WITH THE SEED: the statements are not yours to turn. If you find one false, say at which input.
  Laid BY PROGRAM, IN A SANDBOX (cutbox-rows.mjs): the forced cells as the released guide's own fill.sh prints them over the translation f1c4c189ce1a20c3… (all of the seat's roots in one cut). By AI agents, Wed Nov 11 2026. No macro, syntax, notation, axiom, sorry.
-/
import Derived.Test.YtalpkjfpmdpbiaaGreatDoorChecked
import GoSem.Claim
import GoSem.ClaimJoined
import GoSem.ClaimMapViews
import Derived.JoinedTies
import Derived.KernelRfl
namespace Go.Proofs.YtalpkjfpmdpbiaaGreatDoor
/- THE CELL 'sum', in the pinned program and in every row, IS THE sha256 OF THE DUMP (.gsa) THAT YtalpkjfpmdpbiaaGreatDoorProg.lean LOADS. Nothing in Lean hashes anything: it is a label: what it is worth is what the hold of that sum in a sandbox is worth. -/
noncomputable def Tryz.pinned : Pinned := { name := "ytalpkjfpmdpbiaagreatdoor", sum := "f1c4c189ce1a20c3a5d8374f68214d01f4b9c15da3fb401d896f70b65af79067", checked := Tryz.checked }
namespace Rows
def none {H : Type} : Left H := { results := [], args := [] }

/- WHAT THE LISTED PACKAGE-LEVEL VARIABLES READ AS WHEN THE CALL BEGINS. Each datum BY PROGRAM (the guide's laid-datum.mjs) off the statement by which the dump's own 'gosem.cut.vars' lays the variable. In a bare row this is a premise. The card (YtalpkjfpmdpbiaaGreatDoorCards.lean) ties it to the program's text. -/
def laid_math_bits_deBruijn32tab {H : Type} : DataW H := .agg [.lit (.int .u8 0), .lit (.int .u8 1), .lit (.int .u8 28), .lit (.int .u8 2), .lit (.int .u8 29), .lit (.int .u8 14), .lit (.int .u8 24), .lit (.int .u8 3), .lit (.int .u8 30), .lit (.int .u8 22), .lit (.int .u8 20), .lit (.int .u8 15), .lit (.int .u8 25), .lit (.int .u8 17), .lit (.int .u8 4), .lit (.int .u8 8), .lit (.int .u8 31), .lit (.int .u8 27), .lit (.int .u8 13), .lit (.int .u8 23), .lit (.int .u8 21), .lit (.int .u8 19), .lit (.int .u8 16), .lit (.int .u8 7), .lit (.int .u8 26), .lit (.int .u8 12), .lit (.int .u8 18), .lit (.int .u8 6), .lit (.int .u8 11), .lit (.int .u8 5), .lit (.int .u8 10), .lit (.int .u8 9)]
def laid_math_bits_deBruijn64tab {H : Type} : DataW H := .agg [.lit (.int .u8 0), .lit (.int .u8 1), .lit (.int .u8 56), .lit (.int .u8 2), .lit (.int .u8 57), .lit (.int .u8 49), .lit (.int .u8 28), .lit (.int .u8 3), .lit (.int .u8 61), .lit (.int .u8 58), .lit (.int .u8 42), .lit (.int .u8 50), .lit (.int .u8 38), .lit (.int .u8 29), .lit (.int .u8 17), .lit (.int .u8 4), .lit (.int .u8 62), .lit (.int .u8 47), .lit (.int .u8 59), .lit (.int .u8 36), .lit (.int .u8 45), .lit (.int .u8 43), .lit (.int .u8 51), .lit (.int .u8 22), .lit (.int .u8 53), .lit (.int .u8 39), .lit (.int .u8 33), .lit (.int .u8 30), .lit (.int .u8 24), .lit (.int .u8 18), .lit (.int .u8 12), .lit (.int .u8 5), .lit (.int .u8 63), .lit (.int .u8 55), .lit (.int .u8 48), .lit (.int .u8 27), .lit (.int .u8 60), .lit (.int .u8 41), .lit (.int .u8 37), .lit (.int .u8 16), .lit (.int .u8 46), .lit (.int .u8 35), .lit (.int .u8 44), .lit (.int .u8 21), .lit (.int .u8 52), .lit (.int .u8 32), .lit (.int .u8 23), .lit (.int .u8 11), .lit (.int .u8 54), .lit (.int .u8 26), .lit (.int .u8 40), .lit (.int .u8 15), .lit (.int .u8 34), .lit (.int .u8 20), .lit (.int .u8 31), .lit (.int .u8 10), .lit (.int .u8 25), .lit (.int .u8 14), .lit (.int .u8 19), .lit (.int .u8 9), .lit (.int .u8 13), .lit (.int .u8 8), .lit (.int .u8 7), .lit (.int .u8 6)]
def laid_internal_strconv_uint64pow10 {H : Type} : DataW H := .agg [.lit (.int .u64 1), .lit (.int .u64 10), .lit (.int .u64 100), .lit (.int .u64 1000), .lit (.int .u64 10000), .lit (.int .u64 100000), .lit (.int .u64 1000000), .lit (.int .u64 10000000), .lit (.int .u64 100000000), .lit (.int .u64 1000000000), .lit (.int .u64 10000000000), .lit (.int .u64 100000000000), .lit (.int .u64 1000000000000), .lit (.int .u64 10000000000000), .lit (.int .u64 100000000000000), .lit (.int .u64 1000000000000000), .lit (.int .u64 10000000000000000), .lit (.int .u64 100000000000000000), .lit (.int .u64 1000000000000000000), .lit (.int .u64 10000000000000000000)]

/-- 'breccialaw19.SimSand': WHATEVER THE INPUT: true; the input reads as it did. -/
def simSandSpec : ChangeSpec := { name := "simSand", fn := fun _ => fun
  | [d1, d2] => { results := [.lit (.bool true)], args := [d1, d2] }
  | _ => none }
def simSandRow : OpenClaim := { program := "ytalpkjfpmdpbiaagreatdoor", sum := "f1c4c189ce1a20c3a5d8374f68214d01f4b9c15da3fb401d896f70b65af79067", func := "breccia/breccialaw19.SimSand", spec := "simSand", inPlace := ["maps.clone", "slices.overlaps[breccia/queue.Item]"], unfollowed := true, recurses := true, named := ["internal/strconv.uint64pow10", "math/bits.deBruijn32tab", "math/bits.deBruijn64tab"], plainKeys := false, apart := false, laid := [("math/bits.deBruijn32tab", laid_math_bits_deBruijn32tab), ("math/bits.deBruijn64tab", laid_math_bits_deBruijn64tab), ("internal/strconv.uint64pow10", laid_internal_strconv_uint64pow10)] }
def SimSandSaid : Prop := simSandRow.holds Tryz.pinned (OpenSpec.ofChange simSandSpec)

/-- ITS FALSE NEIGHBOUR: 'it returns false'. Refute it at one input. -/
def simSandWrong : ChangeSpec := { name := "simSand", fn := fun _ => fun
  | [d1, d2] => { results := [.lit (.bool false)], args := [d1, d2] }
  | _ => none }
def SimSandWrongFalsely : Prop := simSandRow.holds Tryz.pinned (OpenSpec.ofChange simSandWrong)

/-- 'breccialaw19.SimOccupied': WHATEVER THE INPUT: true; the input reads as it did. -/
def simOccupiedSpec : ChangeSpec := { name := "simOccupied", fn := fun _ => fun
  | [d1, d2, d3] => { results := [.lit (.bool true)], args := [d1, d2, d3] }
  | _ => none }
def simOccupiedRow : OpenClaim := { program := "ytalpkjfpmdpbiaagreatdoor", sum := "f1c4c189ce1a20c3a5d8374f68214d01f4b9c15da3fb401d896f70b65af79067", func := "breccia/breccialaw19.SimOccupied", spec := "simOccupied", inPlace := ["maps.clone", "slices.overlaps[breccia/queue.Item]"], unfollowed := true, recurses := true, named := ["internal/strconv.uint64pow10", "math/bits.deBruijn32tab", "math/bits.deBruijn64tab"], plainKeys := false, apart := false, laid := [("math/bits.deBruijn32tab", laid_math_bits_deBruijn32tab), ("math/bits.deBruijn64tab", laid_math_bits_deBruijn64tab), ("internal/strconv.uint64pow10", laid_internal_strconv_uint64pow10)] }
def SimOccupiedSaid : Prop := simOccupiedRow.holds Tryz.pinned (OpenSpec.ofChange simOccupiedSpec)

/-- ITS FALSE NEIGHBOUR: 'it returns false'. Refute it at one input. -/
def simOccupiedWrong : ChangeSpec := { name := "simOccupied", fn := fun _ => fun
  | [d1, d2, d3] => { results := [.lit (.bool false)], args := [d1, d2, d3] }
  | _ => none }
def SimOccupiedWrongFalsely : Prop := simOccupiedRow.holds Tryz.pinned (OpenSpec.ofChange simOccupiedWrong)

/-- 'breccialaw19.SimStill': WHATEVER THE INPUT: true; the input reads as it did. -/
def simStillSpec : ChangeSpec := { name := "simStill", fn := fun _ => fun
  | [d1, d2, d3, d4] => { results := [.lit (.bool true)], args := [d1, d2, d3, d4] }
  | _ => none }
def simStillRow : OpenClaim := { program := "ytalpkjfpmdpbiaagreatdoor", sum := "f1c4c189ce1a20c3a5d8374f68214d01f4b9c15da3fb401d896f70b65af79067", func := "breccia/breccialaw19.SimStill", spec := "simStill", inPlace := ["maps.clone", "slices.overlaps[breccia/queue.Item]"], unfollowed := true, recurses := true, named := ["internal/strconv.uint64pow10", "math/bits.deBruijn32tab", "math/bits.deBruijn64tab"], plainKeys := false, apart := false, laid := [("math/bits.deBruijn32tab", laid_math_bits_deBruijn32tab), ("math/bits.deBruijn64tab", laid_math_bits_deBruijn64tab), ("internal/strconv.uint64pow10", laid_internal_strconv_uint64pow10)] }
def SimStillSaid : Prop := simStillRow.holds Tryz.pinned (OpenSpec.ofChange simStillSpec)

/-- ITS FALSE NEIGHBOUR: 'it returns false'. Refute it at one input. -/
def simStillWrong : ChangeSpec := { name := "simStill", fn := fun _ => fun
  | [d1, d2, d3, d4] => { results := [.lit (.bool false)], args := [d1, d2, d3, d4] }
  | _ => none }
def SimStillWrongFalsely : Prop := simStillRow.holds Tryz.pinned (OpenSpec.ofChange simStillWrong)

/-- 'breccialaw19.SimRestores': WHATEVER THE INPUT: true; the input reads as it did. -/
def simRestoresSpec : ChangeSpec := { name := "simRestores", fn := fun _ => fun
  | [d1, d2, d3, d4, d5] => { results := [.lit (.bool true)], args := [d1, d2, d3, d4, d5] }
  | _ => none }
def simRestoresRow : OpenClaim := { program := "ytalpkjfpmdpbiaagreatdoor", sum := "f1c4c189ce1a20c3a5d8374f68214d01f4b9c15da3fb401d896f70b65af79067", func := "breccia/breccialaw19.SimRestores", spec := "simRestores", inPlace := ["maps.clone", "slices.overlaps[breccia/queue.Item]"], unfollowed := true, recurses := true, named := ["internal/strconv.uint64pow10", "math/bits.deBruijn32tab", "math/bits.deBruijn64tab"], plainKeys := false, apart := false, laid := [("math/bits.deBruijn32tab", laid_math_bits_deBruijn32tab), ("math/bits.deBruijn64tab", laid_math_bits_deBruijn64tab), ("internal/strconv.uint64pow10", laid_internal_strconv_uint64pow10)] }
def SimRestoresSaid : Prop := simRestoresRow.holds Tryz.pinned (OpenSpec.ofChange simRestoresSpec)

/-- ITS FALSE NEIGHBOUR: 'it returns false'. Refute it at one input. -/
def simRestoresWrong : ChangeSpec := { name := "simRestores", fn := fun _ => fun
  | [d1, d2, d3, d4, d5] => { results := [.lit (.bool false)], args := [d1, d2, d3, d4, d5] }
  | _ => none }
def SimRestoresWrongFalsely : Prop := simRestoresRow.holds Tryz.pinned (OpenSpec.ofChange simRestoresWrong)

/-- 'breccialaw19.SimBudgets': WHATEVER THE INPUT: true; the input reads as it did. -/
def simBudgetsSpec : ChangeSpec := { name := "simBudgets", fn := fun _ => fun
  | [d1, d2, d3, d4] => { results := [.lit (.bool true)], args := [d1, d2, d3, d4] }
  | _ => none }
def simBudgetsRow : OpenClaim := { program := "ytalpkjfpmdpbiaagreatdoor", sum := "f1c4c189ce1a20c3a5d8374f68214d01f4b9c15da3fb401d896f70b65af79067", func := "breccia/breccialaw19.SimBudgets", spec := "simBudgets", inPlace := ["maps.clone", "slices.overlaps[breccia/queue.Item]"], unfollowed := true, recurses := true, named := ["internal/strconv.uint64pow10", "math/bits.deBruijn32tab", "math/bits.deBruijn64tab"], plainKeys := false, apart := false, laid := [("math/bits.deBruijn32tab", laid_math_bits_deBruijn32tab), ("math/bits.deBruijn64tab", laid_math_bits_deBruijn64tab), ("internal/strconv.uint64pow10", laid_internal_strconv_uint64pow10)] }
def SimBudgetsSaid : Prop := simBudgetsRow.holds Tryz.pinned (OpenSpec.ofChange simBudgetsSpec)

/-- ITS FALSE NEIGHBOUR: 'it returns false'. Refute it at one input. -/
def simBudgetsWrong : ChangeSpec := { name := "simBudgets", fn := fun _ => fun
  | [d1, d2, d3, d4] => { results := [.lit (.bool false)], args := [d1, d2, d3, d4] }
  | _ => none }
def SimBudgetsWrongFalsely : Prop := simBudgetsRow.holds Tryz.pinned (OpenSpec.ofChange simBudgetsWrong)

/-- 'breccialaw19.SimPlays': WHATEVER THE INPUT: true; the input reads as it did. -/
def simPlaysSpec : ChangeSpec := { name := "simPlays", fn := fun _ => fun
  | [d1, d2, d3, d4] => { results := [.lit (.bool true)], args := [d1, d2, d3, d4] }
  | _ => none }
def simPlaysRow : OpenClaim := { program := "ytalpkjfpmdpbiaagreatdoor", sum := "f1c4c189ce1a20c3a5d8374f68214d01f4b9c15da3fb401d896f70b65af79067", func := "breccia/breccialaw19.SimPlays", spec := "simPlays", inPlace := ["maps.clone", "slices.overlaps[breccia/queue.Item]"], unfollowed := true, recurses := true, named := ["internal/strconv.uint64pow10", "math/bits.deBruijn32tab", "math/bits.deBruijn64tab"], plainKeys := false, apart := false, laid := [("math/bits.deBruijn32tab", laid_math_bits_deBruijn32tab), ("math/bits.deBruijn64tab", laid_math_bits_deBruijn64tab), ("internal/strconv.uint64pow10", laid_internal_strconv_uint64pow10)] }
def SimPlaysSaid : Prop := simPlaysRow.holds Tryz.pinned (OpenSpec.ofChange simPlaysSpec)

/-- ITS FALSE NEIGHBOUR: 'it returns false'. Refute it at one input. -/
def simPlaysWrong : ChangeSpec := { name := "simPlays", fn := fun _ => fun
  | [d1, d2, d3, d4] => { results := [.lit (.bool false)], args := [d1, d2, d3, d4] }
  | _ => none }
def SimPlaysWrongFalsely : Prop := simPlaysRow.holds Tryz.pinned (OpenSpec.ofChange simPlaysWrong)

/- THE SECOND FORM. 'bulk': how many values and letters a reading holds, each counted each time it is reached (what is shared counts as often as it is met; a slice's spare places count too). A statement '..UptoSaid' is the law's where the arguments, and the package variables that the reading takes, are together of bulk at most 1048576: NARROWER than '..Said'. Prove '..Said' where nothing that the law and all that it calls make is longer than what came in: it says more and counts as full. Else prove '..UptoSaid'. A law counts once. -/
mutual
def uptoBulk {H : Type} : DataW H → Nat
  | .lit (.string bytes) => bytes.length + 1
  | .lit _ => 1
  | .nil => 1
  | .ptr d => uptoBulk d + 1
  | .slice elems spare => uptoBulkAll elems + uptoBulkAll spare + 1
  | .agg parts => uptoBulkAll parts + 1
  | .iface _ d => uptoBulk d + 1
  | .map entries => uptoBulkEntries entries + 1
  | .held _ => 1
def uptoBulkAll {H : Type} : List (DataW H) → Nat
  | [] => 0
  | d :: r => uptoBulk d + uptoBulkAll r
def uptoBulkEntries {H : Type} : List (Lit × DataW H) → Nat
  | [] => 0
  | x :: r => uptoBulkEntry x + uptoBulkEntries r
def uptoBulkEntry {H : Type} : Lit × DataW H → Nat
  | (.string bytes, d) => bytes.length + uptoBulk d + 1
  | (_, d) => uptoBulk d + 1
 end
def uptoSmall : (H : Type) → List (DataW H) → Bool := fun _ ds => decide (uptoBulkAll ds ≤ 1048576)
def OpenSpec.upto (s : _root_.Go.ChangeSpec) : _root_.Go.OpenSpec := { _root_.Go.OpenSpec.ofChange s with cond := some uptoSmall }

/-- 'breccialaw19.SimSand', WHERE WHAT IT READS IS OF BULK AT MOST 1048576: true; the input reads as it did. -/
def simSandUptoRow : OpenClaim := { program := "ytalpkjfpmdpbiaagreatdoor", sum := "f1c4c189ce1a20c3a5d8374f68214d01f4b9c15da3fb401d896f70b65af79067", func := "breccia/breccialaw19.SimSand", spec := "simSand", inPlace := ["maps.clone", "slices.overlaps[breccia/queue.Item]"], unfollowed := true, recurses := true, named := ["internal/strconv.uint64pow10", "math/bits.deBruijn32tab", "math/bits.deBruijn64tab"], plainKeys := false, apart := false, laid := [("math/bits.deBruijn32tab", laid_math_bits_deBruijn32tab), ("math/bits.deBruijn64tab", laid_math_bits_deBruijn64tab), ("internal/strconv.uint64pow10", laid_internal_strconv_uint64pow10)], narrowed := true }
def SimSandUptoSaid : Prop := simSandUptoRow.holds Tryz.pinned (OpenSpec.upto simSandSpec)

/-- 'breccialaw19.SimOccupied', WHERE WHAT IT READS IS OF BULK AT MOST 1048576: true; the input reads as it did. -/
def simOccupiedUptoRow : OpenClaim := { program := "ytalpkjfpmdpbiaagreatdoor", sum := "f1c4c189ce1a20c3a5d8374f68214d01f4b9c15da3fb401d896f70b65af79067", func := "breccia/breccialaw19.SimOccupied", spec := "simOccupied", inPlace := ["maps.clone", "slices.overlaps[breccia/queue.Item]"], unfollowed := true, recurses := true, named := ["internal/strconv.uint64pow10", "math/bits.deBruijn32tab", "math/bits.deBruijn64tab"], plainKeys := false, apart := false, laid := [("math/bits.deBruijn32tab", laid_math_bits_deBruijn32tab), ("math/bits.deBruijn64tab", laid_math_bits_deBruijn64tab), ("internal/strconv.uint64pow10", laid_internal_strconv_uint64pow10)], narrowed := true }
def SimOccupiedUptoSaid : Prop := simOccupiedUptoRow.holds Tryz.pinned (OpenSpec.upto simOccupiedSpec)

/-- 'breccialaw19.SimStill', WHERE WHAT IT READS IS OF BULK AT MOST 1048576: true; the input reads as it did. -/
def simStillUptoRow : OpenClaim := { program := "ytalpkjfpmdpbiaagreatdoor", sum := "f1c4c189ce1a20c3a5d8374f68214d01f4b9c15da3fb401d896f70b65af79067", func := "breccia/breccialaw19.SimStill", spec := "simStill", inPlace := ["maps.clone", "slices.overlaps[breccia/queue.Item]"], unfollowed := true, recurses := true, named := ["internal/strconv.uint64pow10", "math/bits.deBruijn32tab", "math/bits.deBruijn64tab"], plainKeys := false, apart := false, laid := [("math/bits.deBruijn32tab", laid_math_bits_deBruijn32tab), ("math/bits.deBruijn64tab", laid_math_bits_deBruijn64tab), ("internal/strconv.uint64pow10", laid_internal_strconv_uint64pow10)], narrowed := true }
def SimStillUptoSaid : Prop := simStillUptoRow.holds Tryz.pinned (OpenSpec.upto simStillSpec)

/-- 'breccialaw19.SimRestores', WHERE WHAT IT READS IS OF BULK AT MOST 1048576: true; the input reads as it did. -/
def simRestoresUptoRow : OpenClaim := { program := "ytalpkjfpmdpbiaagreatdoor", sum := "f1c4c189ce1a20c3a5d8374f68214d01f4b9c15da3fb401d896f70b65af79067", func := "breccia/breccialaw19.SimRestores", spec := "simRestores", inPlace := ["maps.clone", "slices.overlaps[breccia/queue.Item]"], unfollowed := true, recurses := true, named := ["internal/strconv.uint64pow10", "math/bits.deBruijn32tab", "math/bits.deBruijn64tab"], plainKeys := false, apart := false, laid := [("math/bits.deBruijn32tab", laid_math_bits_deBruijn32tab), ("math/bits.deBruijn64tab", laid_math_bits_deBruijn64tab), ("internal/strconv.uint64pow10", laid_internal_strconv_uint64pow10)], narrowed := true }
def SimRestoresUptoSaid : Prop := simRestoresUptoRow.holds Tryz.pinned (OpenSpec.upto simRestoresSpec)

/-- 'breccialaw19.SimBudgets', WHERE WHAT IT READS IS OF BULK AT MOST 1048576: true; the input reads as it did. -/
def simBudgetsUptoRow : OpenClaim := { program := "ytalpkjfpmdpbiaagreatdoor", sum := "f1c4c189ce1a20c3a5d8374f68214d01f4b9c15da3fb401d896f70b65af79067", func := "breccia/breccialaw19.SimBudgets", spec := "simBudgets", inPlace := ["maps.clone", "slices.overlaps[breccia/queue.Item]"], unfollowed := true, recurses := true, named := ["internal/strconv.uint64pow10", "math/bits.deBruijn32tab", "math/bits.deBruijn64tab"], plainKeys := false, apart := false, laid := [("math/bits.deBruijn32tab", laid_math_bits_deBruijn32tab), ("math/bits.deBruijn64tab", laid_math_bits_deBruijn64tab), ("internal/strconv.uint64pow10", laid_internal_strconv_uint64pow10)], narrowed := true }
def SimBudgetsUptoSaid : Prop := simBudgetsUptoRow.holds Tryz.pinned (OpenSpec.upto simBudgetsSpec)

/-- 'breccialaw19.SimPlays', WHERE WHAT IT READS IS OF BULK AT MOST 1048576: true; the input reads as it did. -/
def simPlaysUptoRow : OpenClaim := { program := "ytalpkjfpmdpbiaagreatdoor", sum := "f1c4c189ce1a20c3a5d8374f68214d01f4b9c15da3fb401d896f70b65af79067", func := "breccia/breccialaw19.SimPlays", spec := "simPlays", inPlace := ["maps.clone", "slices.overlaps[breccia/queue.Item]"], unfollowed := true, recurses := true, named := ["internal/strconv.uint64pow10", "math/bits.deBruijn32tab", "math/bits.deBruijn64tab"], plainKeys := false, apart := false, laid := [("math/bits.deBruijn32tab", laid_math_bits_deBruijn32tab), ("math/bits.deBruijn64tab", laid_math_bits_deBruijn64tab), ("internal/strconv.uint64pow10", laid_internal_strconv_uint64pow10)], narrowed := true }
def SimPlaysUptoSaid : Prop := simPlaysUptoRow.holds Tryz.pinned (OpenSpec.upto simPlaysSpec)

end Rows
end Go.Proofs.YtalpkjfpmdpbiaaGreatDoor
