/-
  NARROWER THAN 'FOR EVERY INPUT', by the rows' own cells (each row's printed sentence says how): CodeWrites: laid · CodeSizes: laid · CodeNumbers: laid · RunsTwo: laid · RunsMay: laid · RunsFill: laid · RunsBack: laid · RunsSet: laid · RunsMake: laid · RunsCells: laid · CodeRound: laid · CodeReads: laid · CodeAgain: laid.
  DERIVED. THE GIVEN ROWS OF THIS SEAT. 13 by the template 'for every input the law returns true; each argument reads behind the call as it read before'; 0 by the template 'total and deterministic' (their statements: YtbphdgiepimmkaaDoorTotals.lean).
  GIVEN WITH THE SEED: the statements are not yours to turn. If you find one false, say at which input.
  Laid BY PROGRAM, IN A SANDBOX (cutbox-rows.mjs): the forced cells as the released guide's own fill.sh prints them over the translation 32a627b75cd79a39… (all of the seat's roots in one cut). By AI agents, Wed Nov 11 2026. No macro, syntax, notation, axiom, sorry.
-/
import Derived.Test.YtbphdgiepimmkaaDoorChecked
import GoSem.Claim
import GoSem.ClaimJoined
import GoSem.ClaimMapViews
import Derived.JoinedTies
import Derived.KernelRfl
namespace Go.Proofs.YtbphdgiepimmkaaDoor
/- THE CELL 'sum', in the pinned program and in every row, IS THE sha256 OF THE DUMP (.gsa) THAT YtbphdgiepimmkaaDoorProg.lean LOADS. Nothing in Lean hashes anything: it is a label: what it is worth is what the hold of that sum in a sandbox is worth. -/
noncomputable def Tryd.pinned : Pinned := { name := "ytbphdgiepimmkaadoor", sum := "32a627b75cd79a39bfa4bb155c47ef1d4b5ce6d6ebf706a973f56feeada0daa8", checked := Tryd.checked }
namespace Rows
def none {H : Type} : Left H := { results := [], args := [] }

/- WHAT THE LISTED PACKAGE-LEVEL VARIABLES READ AS WHEN THE CALL BEGINS. Each datum BY PROGRAM (the guide's laid-datum.mjs) off the statement by which the dump's own 'gosem.cut.vars' lays the variable. In a bare row this is a premise. The card (YtbphdgiepimmkaaDoorCards.lean) ties it to the program's text. -/
def laid_math_bits_deBruijn32tab {H : Type} : DataW H := .agg [.lit (.int .u8 0), .lit (.int .u8 1), .lit (.int .u8 28), .lit (.int .u8 2), .lit (.int .u8 29), .lit (.int .u8 14), .lit (.int .u8 24), .lit (.int .u8 3), .lit (.int .u8 30), .lit (.int .u8 22), .lit (.int .u8 20), .lit (.int .u8 15), .lit (.int .u8 25), .lit (.int .u8 17), .lit (.int .u8 4), .lit (.int .u8 8), .lit (.int .u8 31), .lit (.int .u8 27), .lit (.int .u8 13), .lit (.int .u8 23), .lit (.int .u8 21), .lit (.int .u8 19), .lit (.int .u8 16), .lit (.int .u8 7), .lit (.int .u8 26), .lit (.int .u8 12), .lit (.int .u8 18), .lit (.int .u8 6), .lit (.int .u8 11), .lit (.int .u8 5), .lit (.int .u8 10), .lit (.int .u8 9)]
def laid_math_bits_deBruijn64tab {H : Type} : DataW H := .agg [.lit (.int .u8 0), .lit (.int .u8 1), .lit (.int .u8 56), .lit (.int .u8 2), .lit (.int .u8 57), .lit (.int .u8 49), .lit (.int .u8 28), .lit (.int .u8 3), .lit (.int .u8 61), .lit (.int .u8 58), .lit (.int .u8 42), .lit (.int .u8 50), .lit (.int .u8 38), .lit (.int .u8 29), .lit (.int .u8 17), .lit (.int .u8 4), .lit (.int .u8 62), .lit (.int .u8 47), .lit (.int .u8 59), .lit (.int .u8 36), .lit (.int .u8 45), .lit (.int .u8 43), .lit (.int .u8 51), .lit (.int .u8 22), .lit (.int .u8 53), .lit (.int .u8 39), .lit (.int .u8 33), .lit (.int .u8 30), .lit (.int .u8 24), .lit (.int .u8 18), .lit (.int .u8 12), .lit (.int .u8 5), .lit (.int .u8 63), .lit (.int .u8 55), .lit (.int .u8 48), .lit (.int .u8 27), .lit (.int .u8 60), .lit (.int .u8 41), .lit (.int .u8 37), .lit (.int .u8 16), .lit (.int .u8 46), .lit (.int .u8 35), .lit (.int .u8 44), .lit (.int .u8 21), .lit (.int .u8 52), .lit (.int .u8 32), .lit (.int .u8 23), .lit (.int .u8 11), .lit (.int .u8 54), .lit (.int .u8 26), .lit (.int .u8 40), .lit (.int .u8 15), .lit (.int .u8 34), .lit (.int .u8 20), .lit (.int .u8 31), .lit (.int .u8 10), .lit (.int .u8 25), .lit (.int .u8 14), .lit (.int .u8 19), .lit (.int .u8 9), .lit (.int .u8 13), .lit (.int .u8 8), .lit (.int .u8 7), .lit (.int .u8 6)]
def laid_internal_strconv_uint64pow10 {H : Type} : DataW H := .agg [.lit (.int .u64 1), .lit (.int .u64 10), .lit (.int .u64 100), .lit (.int .u64 1000), .lit (.int .u64 10000), .lit (.int .u64 100000), .lit (.int .u64 1000000), .lit (.int .u64 10000000), .lit (.int .u64 100000000), .lit (.int .u64 1000000000), .lit (.int .u64 10000000000), .lit (.int .u64 100000000000), .lit (.int .u64 1000000000000), .lit (.int .u64 10000000000000), .lit (.int .u64 100000000000000), .lit (.int .u64 1000000000000000), .lit (.int .u64 10000000000000000), .lit (.int .u64 100000000000000000), .lit (.int .u64 1000000000000000000), .lit (.int .u64 10000000000000000000)]

/-- 'breccialaw06.CodeWrites': WHATEVER THE INPUT: true; the input reads as it did. -/
def codeWritesSpec : ChangeSpec := { name := "codeWrites", fn := fun _ => fun
  | [d] => { results := [.lit (.bool true)], args := [d] }
  | _ => none }
def codeWritesRow : OpenClaim := { program := "ytbphdgiepimmkaadoor", sum := "32a627b75cd79a39bfa4bb155c47ef1d4b5ce6d6ebf706a973f56feeada0daa8", func := "breccia/breccialaw06.CodeWrites", spec := "codeWrites", named := ["internal/strconv.uint64pow10", "math/bits.deBruijn32tab", "math/bits.deBruijn64tab"], apart := false, laid := [("math/bits.deBruijn32tab", laid_math_bits_deBruijn32tab), ("math/bits.deBruijn64tab", laid_math_bits_deBruijn64tab), ("internal/strconv.uint64pow10", laid_internal_strconv_uint64pow10)] }
def CodeWritesSaid : Prop := codeWritesRow.holds Tryd.pinned (OpenSpec.ofChange codeWritesSpec)

/-- ITS FALSE NEIGHBOUR: 'it returns false'. Refute it at one input. -/
def codeWritesWrong : ChangeSpec := { name := "codeWrites", fn := fun _ => fun
  | [d] => { results := [.lit (.bool false)], args := [d] }
  | _ => none }
def CodeWritesWrongFalsely : Prop := codeWritesRow.holds Tryd.pinned (OpenSpec.ofChange codeWritesWrong)

/-- 'breccialaw06.CodeSizes': WHATEVER THE INPUT: true; the input reads as it did. -/
def codeSizesSpec : ChangeSpec := { name := "codeSizes", fn := fun _ => fun
  | [d1, d2] => { results := [.lit (.bool true)], args := [d1, d2] }
  | _ => none }
def codeSizesRow : OpenClaim := { program := "ytbphdgiepimmkaadoor", sum := "32a627b75cd79a39bfa4bb155c47ef1d4b5ce6d6ebf706a973f56feeada0daa8", func := "breccia/breccialaw06.CodeSizes", spec := "codeSizes", named := ["internal/strconv.uint64pow10", "math/bits.deBruijn32tab", "math/bits.deBruijn64tab"], apart := false, laid := [("math/bits.deBruijn32tab", laid_math_bits_deBruijn32tab), ("math/bits.deBruijn64tab", laid_math_bits_deBruijn64tab), ("internal/strconv.uint64pow10", laid_internal_strconv_uint64pow10)] }
def CodeSizesSaid : Prop := codeSizesRow.holds Tryd.pinned (OpenSpec.ofChange codeSizesSpec)

/-- ITS FALSE NEIGHBOUR: 'it returns false'. Refute it at one input. -/
def codeSizesWrong : ChangeSpec := { name := "codeSizes", fn := fun _ => fun
  | [d1, d2] => { results := [.lit (.bool false)], args := [d1, d2] }
  | _ => none }
def CodeSizesWrongFalsely : Prop := codeSizesRow.holds Tryd.pinned (OpenSpec.ofChange codeSizesWrong)

/-- 'breccialaw06.CodeNumbers': WHATEVER THE INPUT: true; the input reads as it did. -/
def codeNumbersSpec : ChangeSpec := { name := "codeNumbers", fn := fun _ => fun
  | [d1, d2] => { results := [.lit (.bool true)], args := [d1, d2] }
  | _ => none }
def codeNumbersRow : OpenClaim := { program := "ytbphdgiepimmkaadoor", sum := "32a627b75cd79a39bfa4bb155c47ef1d4b5ce6d6ebf706a973f56feeada0daa8", func := "breccia/breccialaw06.CodeNumbers", spec := "codeNumbers", named := ["internal/strconv.uint64pow10", "math/bits.deBruijn32tab", "math/bits.deBruijn64tab"], apart := false, laid := [("math/bits.deBruijn32tab", laid_math_bits_deBruijn32tab), ("math/bits.deBruijn64tab", laid_math_bits_deBruijn64tab), ("internal/strconv.uint64pow10", laid_internal_strconv_uint64pow10)] }
def CodeNumbersSaid : Prop := codeNumbersRow.holds Tryd.pinned (OpenSpec.ofChange codeNumbersSpec)

/-- ITS FALSE NEIGHBOUR: 'it returns false'. Refute it at one input. -/
def codeNumbersWrong : ChangeSpec := { name := "codeNumbers", fn := fun _ => fun
  | [d1, d2] => { results := [.lit (.bool false)], args := [d1, d2] }
  | _ => none }
def CodeNumbersWrongFalsely : Prop := codeNumbersRow.holds Tryd.pinned (OpenSpec.ofChange codeNumbersWrong)

/-- 'breccialaw05.RunsTwo': WHATEVER THE INPUT: true; the input reads as it did. -/
def runsTwoSpec : ChangeSpec := { name := "runsTwo", fn := fun _ => fun
  | [d1, d2, d3, d4, d5] => { results := [.lit (.bool true)], args := [d1, d2, d3, d4, d5] }
  | _ => none }
def runsTwoRow : OpenClaim := { program := "ytbphdgiepimmkaadoor", sum := "32a627b75cd79a39bfa4bb155c47ef1d4b5ce6d6ebf706a973f56feeada0daa8", func := "breccia/breccialaw05.RunsTwo", spec := "runsTwo", named := ["internal/strconv.uint64pow10", "math/bits.deBruijn32tab", "math/bits.deBruijn64tab"], apart := false, laid := [("math/bits.deBruijn32tab", laid_math_bits_deBruijn32tab), ("math/bits.deBruijn64tab", laid_math_bits_deBruijn64tab), ("internal/strconv.uint64pow10", laid_internal_strconv_uint64pow10)] }
def RunsTwoSaid : Prop := runsTwoRow.holds Tryd.pinned (OpenSpec.ofChange runsTwoSpec)

/-- ITS FALSE NEIGHBOUR: 'it returns false'. Refute it at one input. -/
def runsTwoWrong : ChangeSpec := { name := "runsTwo", fn := fun _ => fun
  | [d1, d2, d3, d4, d5] => { results := [.lit (.bool false)], args := [d1, d2, d3, d4, d5] }
  | _ => none }
def RunsTwoWrongFalsely : Prop := runsTwoRow.holds Tryd.pinned (OpenSpec.ofChange runsTwoWrong)

/-- 'breccialaw05.RunsMay': WHATEVER THE INPUT: true; the input reads as it did. -/
def runsMaySpec : ChangeSpec := { name := "runsMay", fn := fun _ => fun
  | [d1, d2, d3, d4] => { results := [.lit (.bool true)], args := [d1, d2, d3, d4] }
  | _ => none }
def runsMayRow : OpenClaim := { program := "ytbphdgiepimmkaadoor", sum := "32a627b75cd79a39bfa4bb155c47ef1d4b5ce6d6ebf706a973f56feeada0daa8", func := "breccia/breccialaw05.RunsMay", spec := "runsMay", named := ["internal/strconv.uint64pow10", "math/bits.deBruijn32tab", "math/bits.deBruijn64tab"], apart := false, laid := [("math/bits.deBruijn32tab", laid_math_bits_deBruijn32tab), ("math/bits.deBruijn64tab", laid_math_bits_deBruijn64tab), ("internal/strconv.uint64pow10", laid_internal_strconv_uint64pow10)] }
def RunsMaySaid : Prop := runsMayRow.holds Tryd.pinned (OpenSpec.ofChange runsMaySpec)

/-- ITS FALSE NEIGHBOUR: 'it returns false'. Refute it at one input. -/
def runsMayWrong : ChangeSpec := { name := "runsMay", fn := fun _ => fun
  | [d1, d2, d3, d4] => { results := [.lit (.bool false)], args := [d1, d2, d3, d4] }
  | _ => none }
def RunsMayWrongFalsely : Prop := runsMayRow.holds Tryd.pinned (OpenSpec.ofChange runsMayWrong)

/-- 'breccialaw05.RunsFill': WHATEVER THE INPUT: true; the input reads as it did. -/
def runsFillSpec : ChangeSpec := { name := "runsFill", fn := fun _ => fun
  | [d1, d2, d3, d4] => { results := [.lit (.bool true)], args := [d1, d2, d3, d4] }
  | _ => none }
def runsFillRow : OpenClaim := { program := "ytbphdgiepimmkaadoor", sum := "32a627b75cd79a39bfa4bb155c47ef1d4b5ce6d6ebf706a973f56feeada0daa8", func := "breccia/breccialaw05.RunsFill", spec := "runsFill", named := ["internal/strconv.uint64pow10", "math/bits.deBruijn32tab", "math/bits.deBruijn64tab"], apart := false, laid := [("math/bits.deBruijn32tab", laid_math_bits_deBruijn32tab), ("math/bits.deBruijn64tab", laid_math_bits_deBruijn64tab), ("internal/strconv.uint64pow10", laid_internal_strconv_uint64pow10)] }
def RunsFillSaid : Prop := runsFillRow.holds Tryd.pinned (OpenSpec.ofChange runsFillSpec)

/-- ITS FALSE NEIGHBOUR: 'it returns false'. Refute it at one input. -/
def runsFillWrong : ChangeSpec := { name := "runsFill", fn := fun _ => fun
  | [d1, d2, d3, d4] => { results := [.lit (.bool false)], args := [d1, d2, d3, d4] }
  | _ => none }
def RunsFillWrongFalsely : Prop := runsFillRow.holds Tryd.pinned (OpenSpec.ofChange runsFillWrong)

/-- 'breccialaw05.RunsBack': WHATEVER THE INPUT: true; the input reads as it did. -/
def runsBackSpec : ChangeSpec := { name := "runsBack", fn := fun _ => fun
  | [d1, d2, d3] => { results := [.lit (.bool true)], args := [d1, d2, d3] }
  | _ => none }
def runsBackRow : OpenClaim := { program := "ytbphdgiepimmkaadoor", sum := "32a627b75cd79a39bfa4bb155c47ef1d4b5ce6d6ebf706a973f56feeada0daa8", func := "breccia/breccialaw05.RunsBack", spec := "runsBack", named := ["internal/strconv.uint64pow10", "math/bits.deBruijn32tab", "math/bits.deBruijn64tab"], apart := false, laid := [("math/bits.deBruijn32tab", laid_math_bits_deBruijn32tab), ("math/bits.deBruijn64tab", laid_math_bits_deBruijn64tab), ("internal/strconv.uint64pow10", laid_internal_strconv_uint64pow10)] }
def RunsBackSaid : Prop := runsBackRow.holds Tryd.pinned (OpenSpec.ofChange runsBackSpec)

/-- ITS FALSE NEIGHBOUR: 'it returns false'. Refute it at one input. -/
def runsBackWrong : ChangeSpec := { name := "runsBack", fn := fun _ => fun
  | [d1, d2, d3] => { results := [.lit (.bool false)], args := [d1, d2, d3] }
  | _ => none }
def RunsBackWrongFalsely : Prop := runsBackRow.holds Tryd.pinned (OpenSpec.ofChange runsBackWrong)

/-- 'breccialaw05.RunsSet': WHATEVER THE INPUT: true; the input reads as it did. -/
def runsSetSpec : ChangeSpec := { name := "runsSet", fn := fun _ => fun
  | [d1, d2, d3] => { results := [.lit (.bool true)], args := [d1, d2, d3] }
  | _ => none }
def runsSetRow : OpenClaim := { program := "ytbphdgiepimmkaadoor", sum := "32a627b75cd79a39bfa4bb155c47ef1d4b5ce6d6ebf706a973f56feeada0daa8", func := "breccia/breccialaw05.RunsSet", spec := "runsSet", named := ["internal/strconv.uint64pow10", "math/bits.deBruijn32tab", "math/bits.deBruijn64tab"], apart := false, laid := [("math/bits.deBruijn32tab", laid_math_bits_deBruijn32tab), ("math/bits.deBruijn64tab", laid_math_bits_deBruijn64tab), ("internal/strconv.uint64pow10", laid_internal_strconv_uint64pow10)] }
def RunsSetSaid : Prop := runsSetRow.holds Tryd.pinned (OpenSpec.ofChange runsSetSpec)

/-- ITS FALSE NEIGHBOUR: 'it returns false'. Refute it at one input. -/
def runsSetWrong : ChangeSpec := { name := "runsSet", fn := fun _ => fun
  | [d1, d2, d3] => { results := [.lit (.bool false)], args := [d1, d2, d3] }
  | _ => none }
def RunsSetWrongFalsely : Prop := runsSetRow.holds Tryd.pinned (OpenSpec.ofChange runsSetWrong)

/-- 'breccialaw05.RunsMake': WHATEVER THE INPUT: true; the input reads as it did. -/
def runsMakeSpec : ChangeSpec := { name := "runsMake", fn := fun _ => fun
  | [d1, d2] => { results := [.lit (.bool true)], args := [d1, d2] }
  | _ => none }
def runsMakeRow : OpenClaim := { program := "ytbphdgiepimmkaadoor", sum := "32a627b75cd79a39bfa4bb155c47ef1d4b5ce6d6ebf706a973f56feeada0daa8", func := "breccia/breccialaw05.RunsMake", spec := "runsMake", named := ["internal/strconv.uint64pow10", "math/bits.deBruijn32tab", "math/bits.deBruijn64tab"], apart := false, laid := [("math/bits.deBruijn32tab", laid_math_bits_deBruijn32tab), ("math/bits.deBruijn64tab", laid_math_bits_deBruijn64tab), ("internal/strconv.uint64pow10", laid_internal_strconv_uint64pow10)] }
def RunsMakeSaid : Prop := runsMakeRow.holds Tryd.pinned (OpenSpec.ofChange runsMakeSpec)

/-- ITS FALSE NEIGHBOUR: 'it returns false'. Refute it at one input. -/
def runsMakeWrong : ChangeSpec := { name := "runsMake", fn := fun _ => fun
  | [d1, d2] => { results := [.lit (.bool false)], args := [d1, d2] }
  | _ => none }
def RunsMakeWrongFalsely : Prop := runsMakeRow.holds Tryd.pinned (OpenSpec.ofChange runsMakeWrong)

/-- 'breccialaw05.RunsCells': WHATEVER THE INPUT: true; the input reads as it did. -/
def runsCellsSpec : ChangeSpec := { name := "runsCells", fn := fun _ => fun
  | [d1, d2] => { results := [.lit (.bool true)], args := [d1, d2] }
  | _ => none }
def runsCellsRow : OpenClaim := { program := "ytbphdgiepimmkaadoor", sum := "32a627b75cd79a39bfa4bb155c47ef1d4b5ce6d6ebf706a973f56feeada0daa8", func := "breccia/breccialaw05.RunsCells", spec := "runsCells", unfollowed := true, recurses := true, named := ["internal/strconv.uint64pow10", "math/bits.deBruijn32tab", "math/bits.deBruijn64tab"], apart := false, laid := [("math/bits.deBruijn32tab", laid_math_bits_deBruijn32tab), ("math/bits.deBruijn64tab", laid_math_bits_deBruijn64tab), ("internal/strconv.uint64pow10", laid_internal_strconv_uint64pow10)] }
def RunsCellsSaid : Prop := runsCellsRow.holds Tryd.pinned (OpenSpec.ofChange runsCellsSpec)

/-- ITS FALSE NEIGHBOUR: 'it returns false'. Refute it at one input. -/
def runsCellsWrong : ChangeSpec := { name := "runsCells", fn := fun _ => fun
  | [d1, d2] => { results := [.lit (.bool false)], args := [d1, d2] }
  | _ => none }
def RunsCellsWrongFalsely : Prop := runsCellsRow.holds Tryd.pinned (OpenSpec.ofChange runsCellsWrong)

/-- 'breccialaw06.CodeRound': WHATEVER THE INPUT: true; the input reads as it did. -/
def codeRoundSpec : ChangeSpec := { name := "codeRound", fn := fun _ => fun
  | [d1, d2, d3] => { results := [.lit (.bool true)], args := [d1, d2, d3] }
  | _ => none }
def codeRoundRow : OpenClaim := { program := "ytbphdgiepimmkaadoor", sum := "32a627b75cd79a39bfa4bb155c47ef1d4b5ce6d6ebf706a973f56feeada0daa8", func := "breccia/breccialaw06.CodeRound", spec := "codeRound", named := ["internal/strconv.uint64pow10", "math/bits.deBruijn32tab", "math/bits.deBruijn64tab"], apart := false, laid := [("math/bits.deBruijn32tab", laid_math_bits_deBruijn32tab), ("math/bits.deBruijn64tab", laid_math_bits_deBruijn64tab), ("internal/strconv.uint64pow10", laid_internal_strconv_uint64pow10)] }
def CodeRoundSaid : Prop := codeRoundRow.holds Tryd.pinned (OpenSpec.ofChange codeRoundSpec)

/-- ITS FALSE NEIGHBOUR: 'it returns false'. Refute it at one input. -/
def codeRoundWrong : ChangeSpec := { name := "codeRound", fn := fun _ => fun
  | [d1, d2, d3] => { results := [.lit (.bool false)], args := [d1, d2, d3] }
  | _ => none }
def CodeRoundWrongFalsely : Prop := codeRoundRow.holds Tryd.pinned (OpenSpec.ofChange codeRoundWrong)

/-- 'breccialaw06.CodeReads': WHATEVER THE INPUT: true; the input reads as it did. -/
def codeReadsSpec : ChangeSpec := { name := "codeReads", fn := fun _ => fun
  | [d1, d2, d3, d4, d5] => { results := [.lit (.bool true)], args := [d1, d2, d3, d4, d5] }
  | _ => none }
def codeReadsRow : OpenClaim := { program := "ytbphdgiepimmkaadoor", sum := "32a627b75cd79a39bfa4bb155c47ef1d4b5ce6d6ebf706a973f56feeada0daa8", func := "breccia/breccialaw06.CodeReads", spec := "codeReads", named := ["internal/strconv.uint64pow10", "math/bits.deBruijn32tab", "math/bits.deBruijn64tab"], apart := false, laid := [("math/bits.deBruijn32tab", laid_math_bits_deBruijn32tab), ("math/bits.deBruijn64tab", laid_math_bits_deBruijn64tab), ("internal/strconv.uint64pow10", laid_internal_strconv_uint64pow10)] }
def CodeReadsSaid : Prop := codeReadsRow.holds Tryd.pinned (OpenSpec.ofChange codeReadsSpec)

/-- ITS FALSE NEIGHBOUR: 'it returns false'. Refute it at one input. -/
def codeReadsWrong : ChangeSpec := { name := "codeReads", fn := fun _ => fun
  | [d1, d2, d3, d4, d5] => { results := [.lit (.bool false)], args := [d1, d2, d3, d4, d5] }
  | _ => none }
def CodeReadsWrongFalsely : Prop := codeReadsRow.holds Tryd.pinned (OpenSpec.ofChange codeReadsWrong)

/-- 'breccialaw06.CodeAgain': WHATEVER THE INPUT: true; the input reads as it did. -/
def codeAgainSpec : ChangeSpec := { name := "codeAgain", fn := fun _ => fun
  | [d1, d2] => { results := [.lit (.bool true)], args := [d1, d2] }
  | _ => none }
def codeAgainRow : OpenClaim := { program := "ytbphdgiepimmkaadoor", sum := "32a627b75cd79a39bfa4bb155c47ef1d4b5ce6d6ebf706a973f56feeada0daa8", func := "breccia/breccialaw06.CodeAgain", spec := "codeAgain", named := ["internal/strconv.uint64pow10", "math/bits.deBruijn32tab", "math/bits.deBruijn64tab"], apart := false, laid := [("math/bits.deBruijn32tab", laid_math_bits_deBruijn32tab), ("math/bits.deBruijn64tab", laid_math_bits_deBruijn64tab), ("internal/strconv.uint64pow10", laid_internal_strconv_uint64pow10)] }
def CodeAgainSaid : Prop := codeAgainRow.holds Tryd.pinned (OpenSpec.ofChange codeAgainSpec)

/-- ITS FALSE NEIGHBOUR: 'it returns false'. Refute it at one input. -/
def codeAgainWrong : ChangeSpec := { name := "codeAgain", fn := fun _ => fun
  | [d1, d2] => { results := [.lit (.bool false)], args := [d1, d2] }
  | _ => none }
def CodeAgainWrongFalsely : Prop := codeAgainRow.holds Tryd.pinned (OpenSpec.ofChange codeAgainWrong)

/- THE SECOND FORM. 'bulk': how many values and letters a reading holds, each counted each time it is reached (what is shared counts as often as it is met; a slice's spare places count too). A statement '..UptoSaid' is the law's where the arguments, and the package variables that the reading takes, are together of bulk at most 1048576: NARROWER than '..Said'. Prove '..Said' where nothing that the law and all that it calls make is longer than what came in: it says more and counts as full. Else prove '..UptoSaid'. A law counts once. -/
mutual
def uptoBulk {H : Type} : DataW H → Nat
  | .lit (.string bytes) => bytes.length + 1
  | .lit _ => 1
  | .nil => 1
  | .ptr d => uptoBulk d + 1
  | .slice elems spare => uptoBulkAll elems + uptoBulkAll spare + 1
  | .agg parts => uptoBulkAll parts + 1
  | .iface _ d => uptoBulk d + 1
  | .map entries => uptoBulkEntries entries + 1
  | .held _ => 1
def uptoBulkAll {H : Type} : List (DataW H) → Nat
  | [] => 0
  | d :: r => uptoBulk d + uptoBulkAll r
def uptoBulkEntries {H : Type} : List (Lit × DataW H) → Nat
  | [] => 0
  | x :: r => uptoBulkEntry x + uptoBulkEntries r
def uptoBulkEntry {H : Type} : Lit × DataW H → Nat
  | (.string bytes, d) => bytes.length + uptoBulk d + 1
  | (_, d) => uptoBulk d + 1
 end
def uptoSmall : (H : Type) → List (DataW H) → Bool := fun _ ds => decide (uptoBulkAll ds ≤ 1048576)
def OpenSpec.upto (s : _root_.Go.ChangeSpec) : _root_.Go.OpenSpec := { _root_.Go.OpenSpec.ofChange s with cond := some uptoSmall }

/-- 'breccialaw06.CodeWrites', WHERE WHAT IT READS IS OF BULK AT MOST 1048576: true; the input reads as it did. -/
def codeWritesUptoRow : OpenClaim := { program := "ytbphdgiepimmkaadoor", sum := "32a627b75cd79a39bfa4bb155c47ef1d4b5ce6d6ebf706a973f56feeada0daa8", func := "breccia/breccialaw06.CodeWrites", spec := "codeWrites", named := ["internal/strconv.uint64pow10", "math/bits.deBruijn32tab", "math/bits.deBruijn64tab"], apart := false, laid := [("math/bits.deBruijn32tab", laid_math_bits_deBruijn32tab), ("math/bits.deBruijn64tab", laid_math_bits_deBruijn64tab), ("internal/strconv.uint64pow10", laid_internal_strconv_uint64pow10)], narrowed := true }
def CodeWritesUptoSaid : Prop := codeWritesUptoRow.holds Tryd.pinned (OpenSpec.upto codeWritesSpec)

/-- 'breccialaw06.CodeSizes', WHERE WHAT IT READS IS OF BULK AT MOST 1048576: true; the input reads as it did. -/
def codeSizesUptoRow : OpenClaim := { program := "ytbphdgiepimmkaadoor", sum := "32a627b75cd79a39bfa4bb155c47ef1d4b5ce6d6ebf706a973f56feeada0daa8", func := "breccia/breccialaw06.CodeSizes", spec := "codeSizes", named := ["internal/strconv.uint64pow10", "math/bits.deBruijn32tab", "math/bits.deBruijn64tab"], apart := false, laid := [("math/bits.deBruijn32tab", laid_math_bits_deBruijn32tab), ("math/bits.deBruijn64tab", laid_math_bits_deBruijn64tab), ("internal/strconv.uint64pow10", laid_internal_strconv_uint64pow10)], narrowed := true }
def CodeSizesUptoSaid : Prop := codeSizesUptoRow.holds Tryd.pinned (OpenSpec.upto codeSizesSpec)

/-- 'breccialaw06.CodeNumbers', WHERE WHAT IT READS IS OF BULK AT MOST 1048576: true; the input reads as it did. -/
def codeNumbersUptoRow : OpenClaim := { program := "ytbphdgiepimmkaadoor", sum := "32a627b75cd79a39bfa4bb155c47ef1d4b5ce6d6ebf706a973f56feeada0daa8", func := "breccia/breccialaw06.CodeNumbers", spec := "codeNumbers", named := ["internal/strconv.uint64pow10", "math/bits.deBruijn32tab", "math/bits.deBruijn64tab"], apart := false, laid := [("math/bits.deBruijn32tab", laid_math_bits_deBruijn32tab), ("math/bits.deBruijn64tab", laid_math_bits_deBruijn64tab), ("internal/strconv.uint64pow10", laid_internal_strconv_uint64pow10)], narrowed := true }
def CodeNumbersUptoSaid : Prop := codeNumbersUptoRow.holds Tryd.pinned (OpenSpec.upto codeNumbersSpec)

/-- 'breccialaw05.RunsTwo', WHERE WHAT IT READS IS OF BULK AT MOST 1048576: true; the input reads as it did. -/
def runsTwoUptoRow : OpenClaim := { program := "ytbphdgiepimmkaadoor", sum := "32a627b75cd79a39bfa4bb155c47ef1d4b5ce6d6ebf706a973f56feeada0daa8", func := "breccia/breccialaw05.RunsTwo", spec := "runsTwo", named := ["internal/strconv.uint64pow10", "math/bits.deBruijn32tab", "math/bits.deBruijn64tab"], apart := false, laid := [("math/bits.deBruijn32tab", laid_math_bits_deBruijn32tab), ("math/bits.deBruijn64tab", laid_math_bits_deBruijn64tab), ("internal/strconv.uint64pow10", laid_internal_strconv_uint64pow10)], narrowed := true }
def RunsTwoUptoSaid : Prop := runsTwoUptoRow.holds Tryd.pinned (OpenSpec.upto runsTwoSpec)

/-- 'breccialaw05.RunsMay', WHERE WHAT IT READS IS OF BULK AT MOST 1048576: true; the input reads as it did. -/
def runsMayUptoRow : OpenClaim := { program := "ytbphdgiepimmkaadoor", sum := "32a627b75cd79a39bfa4bb155c47ef1d4b5ce6d6ebf706a973f56feeada0daa8", func := "breccia/breccialaw05.RunsMay", spec := "runsMay", named := ["internal/strconv.uint64pow10", "math/bits.deBruijn32tab", "math/bits.deBruijn64tab"], apart := false, laid := [("math/bits.deBruijn32tab", laid_math_bits_deBruijn32tab), ("math/bits.deBruijn64tab", laid_math_bits_deBruijn64tab), ("internal/strconv.uint64pow10", laid_internal_strconv_uint64pow10)], narrowed := true }
def RunsMayUptoSaid : Prop := runsMayUptoRow.holds Tryd.pinned (OpenSpec.upto runsMaySpec)

/-- 'breccialaw05.RunsFill', WHERE WHAT IT READS IS OF BULK AT MOST 1048576: true; the input reads as it did. -/
def runsFillUptoRow : OpenClaim := { program := "ytbphdgiepimmkaadoor", sum := "32a627b75cd79a39bfa4bb155c47ef1d4b5ce6d6ebf706a973f56feeada0daa8", func := "breccia/breccialaw05.RunsFill", spec := "runsFill", named := ["internal/strconv.uint64pow10", "math/bits.deBruijn32tab", "math/bits.deBruijn64tab"], apart := false, laid := [("math/bits.deBruijn32tab", laid_math_bits_deBruijn32tab), ("math/bits.deBruijn64tab", laid_math_bits_deBruijn64tab), ("internal/strconv.uint64pow10", laid_internal_strconv_uint64pow10)], narrowed := true }
def RunsFillUptoSaid : Prop := runsFillUptoRow.holds Tryd.pinned (OpenSpec.upto runsFillSpec)

/-- 'breccialaw05.RunsBack', WHERE WHAT IT READS IS OF BULK AT MOST 1048576: true; the input reads as it did. -/
def runsBackUptoRow : OpenClaim := { program := "ytbphdgiepimmkaadoor", sum := "32a627b75cd79a39bfa4bb155c47ef1d4b5ce6d6ebf706a973f56feeada0daa8", func := "breccia/breccialaw05.RunsBack", spec := "runsBack", named := ["internal/strconv.uint64pow10", "math/bits.deBruijn32tab", "math/bits.deBruijn64tab"], apart := false, laid := [("math/bits.deBruijn32tab", laid_math_bits_deBruijn32tab), ("math/bits.deBruijn64tab", laid_math_bits_deBruijn64tab), ("internal/strconv.uint64pow10", laid_internal_strconv_uint64pow10)], narrowed := true }
def RunsBackUptoSaid : Prop := runsBackUptoRow.holds Tryd.pinned (OpenSpec.upto runsBackSpec)

/-- 'breccialaw05.RunsSet', WHERE WHAT IT READS IS OF BULK AT MOST 1048576: true; the input reads as it did. -/
def runsSetUptoRow : OpenClaim := { program := "ytbphdgiepimmkaadoor", sum := "32a627b75cd79a39bfa4bb155c47ef1d4b5ce6d6ebf706a973f56feeada0daa8", func := "breccia/breccialaw05.RunsSet", spec := "runsSet", named := ["internal/strconv.uint64pow10", "math/bits.deBruijn32tab", "math/bits.deBruijn64tab"], apart := false, laid := [("math/bits.deBruijn32tab", laid_math_bits_deBruijn32tab), ("math/bits.deBruijn64tab", laid_math_bits_deBruijn64tab), ("internal/strconv.uint64pow10", laid_internal_strconv_uint64pow10)], narrowed := true }
def RunsSetUptoSaid : Prop := runsSetUptoRow.holds Tryd.pinned (OpenSpec.upto runsSetSpec)

/-- 'breccialaw05.RunsMake', WHERE WHAT IT READS IS OF BULK AT MOST 1048576: true; the input reads as it did. -/
def runsMakeUptoRow : OpenClaim := { program := "ytbphdgiepimmkaadoor", sum := "32a627b75cd79a39bfa4bb155c47ef1d4b5ce6d6ebf706a973f56feeada0daa8", func := "breccia/breccialaw05.RunsMake", spec := "runsMake", named := ["internal/strconv.uint64pow10", "math/bits.deBruijn32tab", "math/bits.deBruijn64tab"], apart := false, laid := [("math/bits.deBruijn32tab", laid_math_bits_deBruijn32tab), ("math/bits.deBruijn64tab", laid_math_bits_deBruijn64tab), ("internal/strconv.uint64pow10", laid_internal_strconv_uint64pow10)], narrowed := true }
def RunsMakeUptoSaid : Prop := runsMakeUptoRow.holds Tryd.pinned (OpenSpec.upto runsMakeSpec)

/-- 'breccialaw05.RunsCells', WHERE WHAT IT READS IS OF BULK AT MOST 1048576: true; the input reads as it did. -/
def runsCellsUptoRow : OpenClaim := { program := "ytbphdgiepimmkaadoor", sum := "32a627b75cd79a39bfa4bb155c47ef1d4b5ce6d6ebf706a973f56feeada0daa8", func := "breccia/breccialaw05.RunsCells", spec := "runsCells", unfollowed := true, recurses := true, named := ["internal/strconv.uint64pow10", "math/bits.deBruijn32tab", "math/bits.deBruijn64tab"], apart := false, laid := [("math/bits.deBruijn32tab", laid_math_bits_deBruijn32tab), ("math/bits.deBruijn64tab", laid_math_bits_deBruijn64tab), ("internal/strconv.uint64pow10", laid_internal_strconv_uint64pow10)], narrowed := true }
def RunsCellsUptoSaid : Prop := runsCellsUptoRow.holds Tryd.pinned (OpenSpec.upto runsCellsSpec)

/-- 'breccialaw06.CodeRound', WHERE WHAT IT READS IS OF BULK AT MOST 1048576: true; the input reads as it did. -/
def codeRoundUptoRow : OpenClaim := { program := "ytbphdgiepimmkaadoor", sum := "32a627b75cd79a39bfa4bb155c47ef1d4b5ce6d6ebf706a973f56feeada0daa8", func := "breccia/breccialaw06.CodeRound", spec := "codeRound", named := ["internal/strconv.uint64pow10", "math/bits.deBruijn32tab", "math/bits.deBruijn64tab"], apart := false, laid := [("math/bits.deBruijn32tab", laid_math_bits_deBruijn32tab), ("math/bits.deBruijn64tab", laid_math_bits_deBruijn64tab), ("internal/strconv.uint64pow10", laid_internal_strconv_uint64pow10)], narrowed := true }
def CodeRoundUptoSaid : Prop := codeRoundUptoRow.holds Tryd.pinned (OpenSpec.upto codeRoundSpec)

/-- 'breccialaw06.CodeReads', WHERE WHAT IT READS IS OF BULK AT MOST 1048576: true; the input reads as it did. -/
def codeReadsUptoRow : OpenClaim := { program := "ytbphdgiepimmkaadoor", sum := "32a627b75cd79a39bfa4bb155c47ef1d4b5ce6d6ebf706a973f56feeada0daa8", func := "breccia/breccialaw06.CodeReads", spec := "codeReads", named := ["internal/strconv.uint64pow10", "math/bits.deBruijn32tab", "math/bits.deBruijn64tab"], apart := false, laid := [("math/bits.deBruijn32tab", laid_math_bits_deBruijn32tab), ("math/bits.deBruijn64tab", laid_math_bits_deBruijn64tab), ("internal/strconv.uint64pow10", laid_internal_strconv_uint64pow10)], narrowed := true }
def CodeReadsUptoSaid : Prop := codeReadsUptoRow.holds Tryd.pinned (OpenSpec.upto codeReadsSpec)

/-- 'breccialaw06.CodeAgain', WHERE WHAT IT READS IS OF BULK AT MOST 1048576: true; the input reads as it did. -/
def codeAgainUptoRow : OpenClaim := { program := "ytbphdgiepimmkaadoor", sum := "32a627b75cd79a39bfa4bb155c47ef1d4b5ce6d6ebf706a973f56feeada0daa8", func := "breccia/breccialaw06.CodeAgain", spec := "codeAgain", named := ["internal/strconv.uint64pow10", "math/bits.deBruijn32tab", "math/bits.deBruijn64tab"], apart := false, laid := [("math/bits.deBruijn32tab", laid_math_bits_deBruijn32tab), ("math/bits.deBruijn64tab", laid_math_bits_deBruijn64tab), ("internal/strconv.uint64pow10", laid_internal_strconv_uint64pow10)], narrowed := true }
def CodeAgainUptoSaid : Prop := codeAgainUptoRow.holds Tryd.pinned (OpenSpec.upto codeAgainSpec)

end Rows
end Go.Proofs.YtbphdgiepimmkaaDoor
