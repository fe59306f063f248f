import Derived.Test.YtbphdgiepimmkaaDoorChecked
import Derived.KernelRfl
import Derived.Test.YtbphdgiepimmkaaDoorLib
set_option linter.all false
namespace Go.Proofs.YtbphdgiepimmkaaDoor
open Go Go.Vc Go.RowKit Go.Proofs
set_option maxRecDepth 100000
set_option maxHeartbeats 8000000
set_option linter.unusedVariables false
theorem Tryd.noNG : NoNG Tryd.prog := ngB_ok (by kernel_rfl)
theorem Tryd.mixed : Tryd.prog.follows .mixedOrders = true := by kernel_rfl
abbrev n_law06_CodeWrites : FuncId := 3
abbrev n_law06_CodeSizes : FuncId := 4
abbrev n_law06_CodeNumbers : FuncId := 5
abbrev n_law05_RunsTwo : FuncId := 6
abbrev n_law05_RunsMay : FuncId := 7
abbrev n_law05_RunsFill : FuncId := 8
abbrev n_law05_RunsBack : FuncId := 9
abbrev n_law05_RunsSet : FuncId := 10
abbrev n_law05_RunsMake : FuncId := 11
abbrev n_law05_RunsCells : FuncId := 12
abbrev n_law06_CodeRound : FuncId := 13
abbrev n_law06_CodeReads : FuncId := 14
abbrev n_law06_CodeAgain : FuncId := 15
abbrev n_ref05_Good : FuncId := 16
abbrev n_code_Write : FuncId := 17
abbrev n_ref06_Write : FuncId := 18
abbrev n_ref06_Same : FuncId := 19
abbrev n_law06_lives : FuncId := 20
abbrev n_ref01_Around : FuncId := 21
abbrev n_ref06_Few : FuncId := 22
abbrev n_code_Number : FuncId := 23
abbrev n_code_Digits : FuncId := 24
abbrev n_ref06_Digits : FuncId := 25
abbrev n_ref06_Number : FuncId := 26
abbrev n_ref05_Cells : FuncId := 27
abbrev n_ref04_Good : FuncId := 28
abbrev n_runs_Set : FuncId := 29
abbrev n_ref05_Same : FuncId := 30
abbrev n_law05_lives : FuncId := 31
abbrev n_runs_May : FuncId := 32
abbrev n_ref05_May : FuncId := 33
abbrev n_runs_Fill : FuncId := 34
abbrev n_ref05_Fill : FuncId := 35
abbrev n_runs_Len : FuncId := 36
abbrev n_runs_At : FuncId := 37
abbrev n_runs_Count : FuncId := 38
abbrev n_ref05_Set : FuncId := 39
abbrev n_ref05_At : FuncId := 40
abbrev n_runs_Make : FuncId := 41
abbrev n_ref05_Blocks : FuncId := 42
abbrev n_runs_Of : FuncId := 43
abbrev n_ref05_Of : FuncId := 44
abbrev n_ref05_SameCells : FuncId := 45
abbrev n_runs_Cells : FuncId := 46
abbrev n_runs_All : FuncId := 47
abbrev n_code_Read : FuncId := 48
abbrev n_ref06_Read : FuncId := 49
abbrev n_slices_Clone_Run : FuncId := 50
abbrev n_block_May : FuncId := 51
abbrev n_ref04_May : FuncId := 52
abbrev n_runs_join : FuncId := 53
abbrev n_runs_Cut : FuncId := 54
abbrev n_runs_push : FuncId := 55
abbrev n_runs_All_1 : FuncId := 56
abbrev n_block_Name : FuncId := 57
abbrev n_block_names : FuncId := 58
abbrev n_strconv_Itoa : FuncId := 59
abbrev n_internal_strconv_Itoa : FuncId := 60
abbrev n_internal_strconv_FormatInt : FuncId := 61
abbrev n_internal_strconv_small : FuncId := 62
abbrev n_internal_strconv_numDigits : FuncId := 63
abbrev n_internal_strconv_formatBase10 : FuncId := 64
abbrev n_internal_strconv_formatBits : FuncId := 65
abbrev n_internal_strconv_log10Pow2 : FuncId := 66
abbrev n_math_bits_Len64 : FuncId := 67
abbrev n_internal_strconv_bool2_int : FuncId := 68
abbrev n_internal_strconv_isPowerOfTwo : FuncId := 69
abbrev n_math_bits_TrailingZeros : FuncId := 70
abbrev n_math_bits_TrailingZeros32 : FuncId := 71
abbrev n_math_bits_TrailingZeros64 : FuncId := 72
/- breccia/breccialaw06.CodeWrites  -/
def law06_CodeWrites.pre (a0 : Sl) (w : World) (R : Ending → World → Prop) : Prop :=
 Br (decide ((((a0.n : Nat) : Int) : Int) > 20))
 ((0 : Int) ≤ 20 ∧ 20 ≤ ((a0.c : Nat) : Int) ∧ Calls Tryd.prog n_ref05_Good #[.slice (slBase a0.a (0) (a0.c) 2) ((20 : Int).toNat - 0) (a0.c - 0)] w (fun e w0 => ∃ (s1 : Sl), e = .returned (.slice s1.a s1.n s1.c) ∧ 
 ∀ w2 : World, w2 = w0.alloc (.cells #[.slice (slBase a0.a (0) (a0.c) 2) ((20 : Int).toNat - 0) (a0.c - 0), .slice s1.a s1.n s1.c] 22) →
 ∃ I3 : Nat → Int → World → Prop,
 (∃ n4, ([.slice (slBase a0.a (0) (a0.c) 2) ((20 : Int).toNat - 0) (a0.c - 0), .slice s1.a s1.n s1.c] : List Value) = [.slice (slBase a0.a (0) (a0.c) 2) ((20 : Int).toNat - 0) (a0.c - 0), .slice s1.a s1.n s1.c] ∧ I3 n4 (0) w2) ∧
 ∀ (n4 : Nat) (us5 : Nat → Value) (x6 : Int) (w7 : World), I3 n4 x6 w7 →
 Br (decide ((x6 : Int) < 2))
 (InB (some ⟨w0.heap.size, 0, none⟩) x6 2 ∧ ∃ (s9 : Sl), ld w7 (padd (some ⟨w0.heap.size, 0, none⟩) ((x6 : Int).toNat * 1)) = some (.slice s9.a s9.n s9.c) ∧
 Calls Tryd.prog n_code_Write #[.slice s9.a s9.n s9.c] w7 (fun e w10 => ∃ (s11 : Sl) (x12 : Int), e = .returned (.tuple #[.slice s11.a s11.n s11.c, .int .i64 x12]) ∧ w10.heap[w0.heap.size]? = w7.heap[w0.heap.size]? ∧ 
 InB (some ⟨w0.heap.size, 0, none⟩) x6 2 ∧ ∃ (s13 : Sl), ld w10 (padd (some ⟨w0.heap.size, 0, none⟩) ((x6 : Int).toNat * 1)) = some (.slice s13.a s13.n s13.c) ∧
 Calls Tryd.prog n_ref06_Write #[.slice s13.a s13.n s13.c] w10 (fun e w14 => ∃ (s15 : Sl) (x16 : Int), e = .returned (.tuple #[.slice s15.a s15.n s15.c, .int .i64 x16]) ∧ w14.heap[w0.heap.size]? = w10.heap[w0.heap.size]? ∧ 
 Br ((x12 : Int) != x16)
 (R (.returned (.bool false)) w14)
 (Calls Tryd.prog n_ref06_Same #[.slice s11.a s11.n s11.c, .slice s15.a s15.n s15.c] w14 (fun e w17 => ∃ (b18 : Bool), e = .returned (.bool b18) ∧ w17.heap[w0.heap.size]? = w14.heap[w0.heap.size]? ∧ 
 Br (!b18)
 (R (.returned (.bool false)) w17)
 (∃ n8, n8 < n4 ∧ ([.slice (slBase a0.a (0) (a0.c) 2) ((20 : Int).toNat - 0) (a0.c - 0), .slice s1.a s1.n s1.c] : List Value) = [.slice (slBase a0.a (0) (a0.c) 2) ((20 : Int).toNat - 0) (a0.c - 0), .slice s1.a s1.n s1.c] ∧ I3 n8 ((IntKind.wrap .i64 (x6 + 1))) w17))))))
 (Calls Tryd.prog n_law06_lives #[] w7 (fun e w19 => ∃ (b20 : Bool), e = .returned (.bool b20) ∧ w19.heap[w0.heap.size]? = w7.heap[w0.heap.size]? ∧ 
 R (.returned (.bool b20)) w19))))
 (Calls Tryd.prog n_ref05_Good #[.slice a0.a a0.n a0.c] w (fun e w21 => ∃ (s22 : Sl), e = .returned (.slice s22.a s22.n s22.c) ∧ 
 ∀ w23 : World, w23 = w21.alloc (.cells #[.slice a0.a a0.n a0.c, .slice s22.a s22.n s22.c] 22) →
 ∃ I24 : Nat → Int → World → Prop,
 (∃ n25, ([.slice a0.a a0.n a0.c, .slice s22.a s22.n s22.c] : List Value) = [.slice a0.a a0.n a0.c, .slice s22.a s22.n s22.c] ∧ I24 n25 (0) w23) ∧
 ∀ (n25 : Nat) (us26 : Nat → Value) (x27 : Int) (w28 : World), I24 n25 x27 w28 →
 Br (decide ((x27 : Int) < 2))
 (InB (some ⟨w21.heap.size, 0, none⟩) x27 2 ∧ ∃ (s30 : Sl), ld w28 (padd (some ⟨w21.heap.size, 0, none⟩) ((x27 : Int).toNat * 1)) = some (.slice s30.a s30.n s30.c) ∧
 Calls Tryd.prog n_code_Write #[.slice s30.a s30.n s30.c] w28 (fun e w31 => ∃ (s32 : Sl) (x33 : Int), e = .returned (.tuple #[.slice s32.a s32.n s32.c, .int .i64 x33]) ∧ w31.heap[w21.heap.size]? = w28.heap[w21.heap.size]? ∧ 
 InB (some ⟨w21.heap.size, 0, none⟩) x27 2 ∧ ∃ (s34 : Sl), ld w31 (padd (some ⟨w21.heap.size, 0, none⟩) ((x27 : Int).toNat * 1)) = some (.slice s34.a s34.n s34.c) ∧
 Calls Tryd.prog n_ref06_Write #[.slice s34.a s34.n s34.c] w31 (fun e w35 => ∃ (s36 : Sl) (x37 : Int), e = .returned (.tuple #[.slice s36.a s36.n s36.c, .int .i64 x37]) ∧ w35.heap[w21.heap.size]? = w31.heap[w21.heap.size]? ∧ 
 Br ((x33 : Int) != x37)
 (R (.returned (.bool false)) w35)
 (Calls Tryd.prog n_ref06_Same #[.slice s32.a s32.n s32.c, .slice s36.a s36.n s36.c] w35 (fun e w38 => ∃ (b39 : Bool), e = .returned (.bool b39) ∧ w38.heap[w21.heap.size]? = w35.heap[w21.heap.size]? ∧ 
 Br (!b39)
 (R (.returned (.bool false)) w38)
 (∃ n29, n29 < n25 ∧ ([.slice a0.a a0.n a0.c, .slice s22.a s22.n s22.c] : List Value) = [.slice a0.a a0.n a0.c, .slice s22.a s22.n s22.c] ∧ I24 n29 ((IntKind.wrap .i64 (x27 + 1))) w38))))))
 (Calls Tryd.prog n_law06_lives #[] w28 (fun e w40 => ∃ (b41 : Bool), e = .returned (.bool b41) ∧ w40.heap[w21.heap.size]? = w28.heap[w21.heap.size]? ∧ 
 R (.returned (.bool b41)) w40))))
theorem law06_CodeWrites.vc {a0 w} {R : Ending → World → Prop} (h : law06_CodeWrites.pre a0 w R) : Calls Tryd.prog n_law06_CodeWrites #[.slice a0.a a0.n a0.c] w R :=
  calls_of_eq (an := ⟨[(5, ⟨[(4, .int .i64)], [], []⟩), (5, ⟨[(4, .int .i64)], [], []⟩)], [], []⟩) (args := [.slice a0.a a0.n a0.c]) Tryd.noNG Tryd.mixed Tryd.func3 h (by kernel_rfl)

/- breccia/breccialaw06.CodeSizes  -/
def law06_CodeSizes.pre (a0 : Sl) (a1 : Sl) (w : World) (R : Ending → World → Prop) : Prop :=
 ∃ I0 : Nat → Int → Int → Int → Sl → World → Prop,
 (∃ n1, I0 n1 (0) ((-1)) (0) ⟨none, 0, 0⟩ w) ∧
 ∀ (n1 : Nat) (us2 : Nat → Value) (x3 : Int) (x4 : Int) (x5 : Int) (s6 : Sl) (w7 : World), I0 n1 x3 x4 x5 s6 w7 →
 Br (decide ((x3 : Int) < ((a0.n : Nat) : Int)))
 (Br (decide ((x3 : Int) < ((a1.n : Nat) : Int)))
 (Br (decide ((x3 : Int) < 12))
 (InB a0.a x3 a0.n ∧ ∃ (x9 : Int), ld w7 (padd a0.a ((x3 : Int).toNat * 1)) = some (.int .i64 x9) ∧
 Calls Tryd.prog n_ref01_Around #[.int .i64 x9, .int .i64 6] w7 (fun e w10 => ∃ (x11 : Int), e = .returned (.int .i64 x11) ∧ 
 Br ((x11 : Int) == x4)
 (∃ n8, n8 < n1 ∧ I0 n8 ((IntKind.wrap .i64 (x3 + 1))) (x4) (x5) ⟨s6.a, s6.n, s6.c⟩ w10)
 (InB a1.a x3 a1.n ∧ ∃ (x12 : Int), ld w10 (padd a1.a ((x3 : Int).toNat * 1)) = some (.int .i64 x12) ∧
 Calls Tryd.prog n_ref01_Around #[.int .i64 x12, .int .i64 20000] w10 (fun e w13 => ∃ (x14 : Int), e = .returned (.int .i64 x14) ∧ 
 Br (decide (((IntKind.wrap .i64 (1 + x14)) : Int) ≥ 128))
 (Br (decide (((IntKind.wrap .i64 (1 + x14)) : Int) ≥ 16384))
 (∀ w15 : World, w15 = w13.alloc (.cells #[.int .i64 (IntKind.wrap .i64 (1 + x14)), .int .i64 x11] 35) →
 AppPre 16 2 w15 ⟨s6.a, s6.n, s6.c⟩ 1 [.int .i64 (IntKind.wrap .i64 (1 + x14)), .int .i64 x11] ∧ ∀ (s16 : Sl) (w17 : World), AppRes 35 2 w15 ⟨s6.a, s6.n, s6.c⟩ 1 [.int .i64 (IntKind.wrap .i64 (1 + x14)), .int .i64 x11] s16 w17 → w17.heap[w13.heap.size]? = w15.heap[w13.heap.size]? ∧ 
 ∃ n8, n8 < n1 ∧ I0 n8 ((IntKind.wrap .i64 (x3 + 1))) (x11) ((IntKind.wrap .i64 ((IntKind.wrap .i64 ((IntKind.wrap .i64 (x5 + 2)) + 1)) + 1))) ⟨s16.a, s16.n, s16.c⟩ w17)
 (∀ w18 : World, w18 = w13.alloc (.cells #[.int .i64 (IntKind.wrap .i64 (1 + x14)), .int .i64 x11] 35) →
 AppPre 16 2 w18 ⟨s6.a, s6.n, s6.c⟩ 1 [.int .i64 (IntKind.wrap .i64 (1 + x14)), .int .i64 x11] ∧ ∀ (s19 : Sl) (w20 : World), AppRes 35 2 w18 ⟨s6.a, s6.n, s6.c⟩ 1 [.int .i64 (IntKind.wrap .i64 (1 + x14)), .int .i64 x11] s19 w20 → w20.heap[w13.heap.size]? = w18.heap[w13.heap.size]? ∧ 
 ∃ n8, n8 < n1 ∧ I0 n8 ((IntKind.wrap .i64 (x3 + 1))) (x11) ((IntKind.wrap .i64 ((IntKind.wrap .i64 (x5 + 2)) + 1))) ⟨s19.a, s19.n, s19.c⟩ w20))
 (Br (decide (((IntKind.wrap .i64 (1 + x14)) : Int) ≥ 16384))
 (∀ w21 : World, w21 = w13.alloc (.cells #[.int .i64 (IntKind.wrap .i64 (1 + x14)), .int .i64 x11] 35) →
 AppPre 16 2 w21 ⟨s6.a, s6.n, s6.c⟩ 1 [.int .i64 (IntKind.wrap .i64 (1 + x14)), .int .i64 x11] ∧ ∀ (s22 : Sl) (w23 : World), AppRes 35 2 w21 ⟨s6.a, s6.n, s6.c⟩ 1 [.int .i64 (IntKind.wrap .i64 (1 + x14)), .int .i64 x11] s22 w23 → w23.heap[w13.heap.size]? = w21.heap[w13.heap.size]? ∧ 
 ∃ n8, n8 < n1 ∧ I0 n8 ((IntKind.wrap .i64 (x3 + 1))) (x11) ((IntKind.wrap .i64 ((IntKind.wrap .i64 (x5 + 2)) + 1))) ⟨s22.a, s22.n, s22.c⟩ w23)
 (∀ w24 : World, w24 = w13.alloc (.cells #[.int .i64 (IntKind.wrap .i64 (1 + x14)), .int .i64 x11] 35) →
 AppPre 16 2 w24 ⟨s6.a, s6.n, s6.c⟩ 1 [.int .i64 (IntKind.wrap .i64 (1 + x14)), .int .i64 x11] ∧ ∀ (s25 : Sl) (w26 : World), AppRes 35 2 w24 ⟨s6.a, s6.n, s6.c⟩ 1 [.int .i64 (IntKind.wrap .i64 (1 + x14)), .int .i64 x11] s25 w26 → w26.heap[w13.heap.size]? = w24.heap[w13.heap.size]? ∧ 
 ∃ n8, n8 < n1 ∧ I0 n8 ((IntKind.wrap .i64 (x3 + 1))) (x11) ((IntKind.wrap .i64 (x5 + 2))) ⟨s25.a, s25.n, s25.c⟩ w26))))))
 (Calls Tryd.prog n_code_Write #[.slice s6.a s6.n s6.c] w7 (fun e w27 => ∃ (s28 : Sl) (x29 : Int), e = .returned (.tuple #[.slice s28.a s28.n s28.c, .int .i64 x29]) ∧ 
 Br ((((s6.n : Nat) : Int) : Int) == 0)
 (Br ((x29 : Int) == 1)
 (Br ((((s28.n : Nat) : Int) : Int) == 0)
 (Calls Tryd.prog n_law06_lives #[] w27 (fun e w30 => ∃ (b31 : Bool), e = .returned (.bool b31) ∧ 
 R (.returned (.bool b31)) w30))
 (R (.returned (.bool false)) w27))
 (R (.returned (.bool false)) w27))
 (Br ((x29 : Int) == 0)
 (Br ((((s28.n : Nat) : Int) : Int) == x5)
 (Calls Tryd.prog n_law06_lives #[] w27 (fun e w32 => ∃ (b33 : Bool), e = .returned (.bool b33) ∧ 
 R (.returned (.bool b33)) w32))
 (R (.returned (.bool false)) w27))
 (R (.returned (.bool false)) w27)))))
 (Calls Tryd.prog n_code_Write #[.slice s6.a s6.n s6.c] w7 (fun e w34 => ∃ (s35 : Sl) (x36 : Int), e = .returned (.tuple #[.slice s35.a s35.n s35.c, .int .i64 x36]) ∧ 
 Br ((((s6.n : Nat) : Int) : Int) == 0)
 (Br ((x36 : Int) == 1)
 (Br ((((s35.n : Nat) : Int) : Int) == 0)
 (Calls Tryd.prog n_law06_lives #[] w34 (fun e w37 => ∃ (b38 : Bool), e = .returned (.bool b38) ∧ 
 R (.returned (.bool b38)) w37))
 (R (.returned (.bool false)) w34))
 (R (.returned (.bool false)) w34))
 (Br ((x36 : Int) == 0)
 (Br ((((s35.n : Nat) : Int) : Int) == x5)
 (Calls Tryd.prog n_law06_lives #[] w34 (fun e w39 => ∃ (b40 : Bool), e = .returned (.bool b40) ∧ 
 R (.returned (.bool b40)) w39))
 (R (.returned (.bool false)) w34))
 (R (.returned (.bool false)) w34)))))
 (Calls Tryd.prog n_code_Write #[.slice s6.a s6.n s6.c] w7 (fun e w41 => ∃ (s42 : Sl) (x43 : Int), e = .returned (.tuple #[.slice s42.a s42.n s42.c, .int .i64 x43]) ∧ 
 Br ((((s6.n : Nat) : Int) : Int) == 0)
 (Br ((x43 : Int) == 1)
 (Br ((((s42.n : Nat) : Int) : Int) == 0)
 (Calls Tryd.prog n_law06_lives #[] w41 (fun e w44 => ∃ (b45 : Bool), e = .returned (.bool b45) ∧ 
 R (.returned (.bool b45)) w44))
 (R (.returned (.bool false)) w41))
 (R (.returned (.bool false)) w41))
 (Br ((x43 : Int) == 0)
 (Br ((((s42.n : Nat) : Int) : Int) == x5)
 (Calls Tryd.prog n_law06_lives #[] w41 (fun e w46 => ∃ (b47 : Bool), e = .returned (.bool b47) ∧ 
 R (.returned (.bool b47)) w46))
 (R (.returned (.bool false)) w41))
 (R (.returned (.bool false)) w41))))
theorem law06_CodeSizes.vc {a0 a1 w} {R : Ending → World → Prop} (h : law06_CodeSizes.pre a0 a1 w R) : Calls Tryd.prog n_law06_CodeSizes #[.slice a0.a a0.n a0.c, .slice a1.a a1.n a1.c] w R :=
  calls_of_eq (an := ⟨[(5, ⟨[(8, .int .i64), (7, .int .i64), (6, .int .i64), (5, .slice)], [], []⟩)], [], []⟩) (args := [.slice a0.a a0.n a0.c, .slice a1.a a1.n a1.c]) Tryd.noNG Tryd.mixed Tryd.func4 h (by kernel_rfl)

/- breccia/breccialaw06.CodeNumbers  -/
def law06_CodeNumbers.pre (a0 : Int) (a1 : Sl) (w : World) (R : Ending → World → Prop) : Prop :=
 Calls Tryd.prog n_ref06_Few #[.slice a1.a a1.n a1.c, .int .i64 6] w (fun e w0 => ∃ (s1 : Sl), e = .returned (.slice s1.a s1.n s1.c) ∧ 
 Calls Tryd.prog n_code_Number #[.int .i64 a0] w0 (fun e w2 => ∃ (s3 : Sl), e = .returned (.slice s3.a s3.n s3.c) ∧ 
 Calls Tryd.prog n_code_Digits #[.slice s1.a s1.n s1.c] w2 (fun e w4 => ∃ (x5 : Int) (x6 : Int) (x7 : Int), e = .returned (.tuple #[.int .i64 x5, .int .i64 x6, .int .i64 x7]) ∧ 
 Calls Tryd.prog n_ref06_Digits #[.slice s1.a s1.n s1.c] w4 (fun e w8 => ∃ (x9 : Int) (x10 : Int) (x11 : Int), e = .returned (.tuple #[.int .i64 x9, .int .i64 x10, .int .i64 x11]) ∧ 
 Calls Tryd.prog n_ref06_Number #[.int .i64 a0] w8 (fun e w12 => ∃ (s13 : Sl), e = .returned (.slice s13.a s13.n s13.c) ∧ 
 Calls Tryd.prog n_ref06_Same #[.slice s3.a s3.n s3.c, .slice s13.a s13.n s13.c] w12 (fun e w14 => ∃ (b15 : Bool), e = .returned (.bool b15) ∧ 
 Br (!b15)
 (R (.returned (.bool false)) w14)
 (Br ((x5 : Int) != x9)
 (R (.returned (.bool false)) w14)
 (Br ((x6 : Int) != x10)
 (R (.returned (.bool false)) w14)
 (Br ((x7 : Int) != x11)
 (R (.returned (.bool false)) w14)
 (Br (decide ((a0 : Int) < 0))
 (Br ((((s3.n : Nat) : Int) : Int) == 0)
 (Calls Tryd.prog n_law06_lives #[] w14 (fun e w16 => ∃ (b17 : Bool), e = .returned (.bool b17) ∧ 
 R (.returned (.bool b17)) w16))
 (R (.returned (.bool false)) w14))
 (Br (decide ((a0 : Int) > 1048576))
 (Br ((((s3.n : Nat) : Int) : Int) == 0)
 (Calls Tryd.prog n_law06_lives #[] w14 (fun e w18 => ∃ (b19 : Bool), e = .returned (.bool b19) ∧ 
 R (.returned (.bool b19)) w18))
 (R (.returned (.bool false)) w14))
 (∃ l20 : List Value, Rd w14 s3.a l20 ∧ AppPre 1 1 w14 ⟨none, 0, 0⟩ s3.n l20 ∧ ∀ (s21 : Sl) (w22 : World), AppRes 5 1 w14 ⟨none, 0, 0⟩ s3.n l20 s21 w22 → 
 ∃ l23 : List Value, Rd w22 s1.a l23 ∧ AppPre 1 1 w22 ⟨s21.a, s21.n, s21.c⟩ s1.n l23 ∧ ∀ (s24 : Sl) (w25 : World), AppRes 5 1 w22 ⟨s21.a, s21.n, s21.c⟩ s1.n l23 s24 w25 → 
 Calls Tryd.prog n_code_Digits #[.slice s24.a s24.n s24.c] w25 (fun e w26 => ∃ (x27 : Int) (x28 : Int) (x29 : Int), e = .returned (.tuple #[.int .i64 x27, .int .i64 x28, .int .i64 x29]) ∧ 
 Br ((x27 : Int) == a0)
 (Br ((x28 : Int) == ((s3.n : Nat) : Int))
 (Br ((x29 : Int) == 0)
 (Calls Tryd.prog n_law06_lives #[] w26 (fun e w30 => ∃ (b31 : Bool), e = .returned (.bool b31) ∧ 
 R (.returned (.bool b31)) w30))
 (R (.returned (.bool false)) w26))
 (R (.returned (.bool false)) w26))
 (R (.returned (.bool false)) w26))))))))))))))
theorem law06_CodeNumbers.vc {a0 a1 w} {R : Ending → World → Prop} (h : law06_CodeNumbers.pre a0 a1 w R) : Calls Tryd.prog n_law06_CodeNumbers #[.int .i64 a0, .slice a1.a a1.n a1.c] w R :=
  calls_of_eq (an := ⟨[], [], []⟩) (args := [.int .i64 a0, .slice a1.a a1.n a1.c]) Tryd.noNG Tryd.mixed Tryd.func5 h (by kernel_rfl)

/- breccia/breccialaw05.RunsTwo  -/
def law05_RunsTwo.pre (a0 : Sl) (a1 : Int) (a2 : Int) (a3 : Int) (a4 : Int) (w : World) (R : Ending → World → Prop) : Prop :=
 Calls Tryd.prog n_ref05_Good #[.slice a0.a a0.n a0.c] w (fun e w0 => ∃ (s1 : Sl), e = .returned (.slice s1.a s1.n s1.c) ∧ 
 Calls Tryd.prog n_ref05_Cells #[.slice s1.a s1.n s1.c] w0 (fun e w2 => ∃ (s3 : Sl), e = .returned (.slice s3.a s3.n s3.c) ∧ 
 Calls Tryd.prog n_ref01_Around #[.int .i64 a1, .int .i64 ((s3.n : Nat) : Int)] w2 (fun e w4 => ∃ (x5 : Int), e = .returned (.int .i64 x5) ∧ 
 Calls Tryd.prog n_ref01_Around #[.int .i64 a2, .int .i64 ((s3.n : Nat) : Int)] w4 (fun e w6 => ∃ (x7 : Int), e = .returned (.int .i64 x7) ∧ 
 Calls Tryd.prog n_ref04_Good #[.int .i64 a3] w6 (fun e w8 => ∃ (x9 : Int), e = .returned (.int .i64 x9) ∧ 
 Calls Tryd.prog n_ref04_Good #[.int .i64 a4] w8 (fun e w10 => ∃ (x11 : Int), e = .returned (.int .i64 x11) ∧ 
 Calls Tryd.prog n_runs_Set #[.slice s1.a s1.n s1.c, .int .i64 x5, .int .i64 x9] w10 (fun e w12 => ∃ (s13 : Sl), e = .returned (.slice s13.a s13.n s13.c) ∧ 
 Calls Tryd.prog n_runs_Set #[.slice s13.a s13.n s13.c, .int .i64 x7, .int .i64 x11] w12 (fun e w14 => ∃ (s15 : Sl), e = .returned (.slice s15.a s15.n s15.c) ∧ 
 Calls Tryd.prog n_runs_Set #[.slice s1.a s1.n s1.c, .int .i64 x7, .int .i64 x11] w14 (fun e w16 => ∃ (s17 : Sl), e = .returned (.slice s17.a s17.n s17.c) ∧ 
 Calls Tryd.prog n_runs_Set #[.slice s17.a s17.n s17.c, .int .i64 x5, .int .i64 x9] w16 (fun e w18 => ∃ (s19 : Sl), e = .returned (.slice s19.a s19.n s19.c) ∧ 
 Br ((x5 : Int) != x7)
 (Calls Tryd.prog n_ref05_Same #[.slice s15.a s15.n s15.c, .slice s19.a s19.n s19.c] w18 (fun e w20 => ∃ (b21 : Bool), e = .returned (.bool b21) ∧ 
 Br b21
 (Calls Tryd.prog n_law05_lives #[] w20 (fun e w22 => ∃ (b23 : Bool), e = .returned (.bool b23) ∧ 
 R (.returned (.bool b23)) w22))
 (R (.returned (.bool false)) w20)))
 (Calls Tryd.prog n_runs_Set #[.slice s1.a s1.n s1.c, .int .i64 x7, .int .i64 x11] w18 (fun e w24 => ∃ (s25 : Sl), e = .returned (.slice s25.a s25.n s25.c) ∧ 
 Calls Tryd.prog n_ref05_Same #[.slice s15.a s15.n s15.c, .slice s25.a s25.n s25.c] w24 (fun e w26 => ∃ (b27 : Bool), e = .returned (.bool b27) ∧ 
 Br b27
 (Calls Tryd.prog n_runs_Set #[.slice s1.a s1.n s1.c, .int .i64 x5, .int .i64 x9] w26 (fun e w28 => ∃ (s29 : Sl), e = .returned (.slice s29.a s29.n s29.c) ∧ 
 Calls Tryd.prog n_ref05_Same #[.slice s19.a s19.n s19.c, .slice s29.a s29.n s29.c] w28 (fun e w30 => ∃ (b31 : Bool), e = .returned (.bool b31) ∧ 
 Br b31
 (Calls Tryd.prog n_law05_lives #[] w30 (fun e w32 => ∃ (b33 : Bool), e = .returned (.bool b33) ∧ 
 R (.returned (.bool b33)) w32))
 (R (.returned (.bool false)) w30))))
 (R (.returned (.bool false)) w26))))))))))))))
theorem law05_RunsTwo.vc {a0 a1 a2 a3 a4 w} {R : Ending → World → Prop} (h : law05_RunsTwo.pre a0 a1 a2 a3 a4 w R) : Calls Tryd.prog n_law05_RunsTwo #[.slice a0.a a0.n a0.c, .int .i64 a1, .int .i64 a2, .int .i64 a3, .int .i64 a4] w R :=
  calls_of_eq (an := ⟨[], [], []⟩) (args := [.slice a0.a a0.n a0.c, .int .i64 a1, .int .i64 a2, .int .i64 a3, .int .i64 a4]) Tryd.noNG Tryd.mixed Tryd.func6 h (by kernel_rfl)

/- breccia/breccialaw05.RunsMay  -/
def law05_RunsMay.pre (a0 : Sl) (a1 : Int) (a2 : Int) (a3_0 : Int) (a3_1 : Int) (w : World) (R : Ending → World → Prop) : Prop :=
 ∀ w0 : World, w0 = w.alloc (.cells #[.int .i64 a3_0, .int .i64 a3_1] 35) →
 Br (decide ((((a0.n : Nat) : Int) : Int) > 20))
 ((0 : Int) ≤ 20 ∧ 20 ≤ ((a0.c : Nat) : Int) ∧ Calls Tryd.prog n_ref05_Good #[.slice (slBase a0.a (0) (a0.c) 2) ((20 : Int).toNat - 0) (a0.c - 0)] w0 (fun e w1 => ∃ (s2 : Sl), e = .returned (.slice s2.a s2.n s2.c) ∧ w1.heap[w.heap.size]? = w0.heap[w.heap.size]? ∧ 
 Calls Tryd.prog n_ref05_Cells #[.slice s2.a s2.n s2.c] w1 (fun e w3 => ∃ (s4 : Sl), e = .returned (.slice s4.a s4.n s4.c) ∧ w3.heap[w.heap.size]? = w1.heap[w.heap.size]? ∧ 
 Calls Tryd.prog n_runs_May #[.slice (slBase a0.a (0) (a0.c) 2) ((20 : Int).toNat - 0) (a0.c - 0), .int .i64 a1] w3 (fun e w5 => ∃ (b6 : Bool), e = .returned (.bool b6) ∧ w5.heap[w.heap.size]? = w3.heap[w.heap.size]? ∧ 
 Calls Tryd.prog n_ref05_May #[.slice (slBase a0.a (0) (a0.c) 2) ((20 : Int).toNat - 0) (a0.c - 0), .int .i64 a1] w5 (fun e w7 => ∃ (b8 : Bool), e = .returned (.bool b8) ∧ w7.heap[w.heap.size]? = w5.heap[w.heap.size]? ∧ 
 Br (!(b6 == b8))
 (R (.returned (.bool false)) w7)
 (Calls Tryd.prog n_runs_May #[.slice s2.a s2.n s2.c, .int .i64 ((s4.n : Nat) : Int)] w7 (fun e w9 => ∃ (b10 : Bool), e = .returned (.bool b10) ∧ w9.heap[w.heap.size]? = w7.heap[w.heap.size]? ∧ 
 Br (!b10)
 (R (.returned (.bool false)) w9)
 (Calls Tryd.prog n_runs_May #[.slice s2.a s2.n s2.c, .int .i64 (IntKind.wrap .i64 (((s4.n : Nat) : Int) + 1))] w9 (fun e w11 => ∃ (b12 : Bool), e = .returned (.bool b12) ∧ w11.heap[w.heap.size]? = w9.heap[w.heap.size]? ∧ 
 Br b12
 (R (.returned (.bool false)) w11)
 (Calls Tryd.prog n_ref01_Around #[.int .i64 a2, .int .i64 ((s2.n : Nat) : Int)] w11.drew (fun e w13 => ∃ (x14 : Int), e = .returned (.int .i64 x14) ∧ w13.heap[w.heap.size]? = w11.drew.heap[w.heap.size]? ∧ 
 LoadL w13 (some ⟨w.heap.size, 0, none⟩) 0 [.int .i64 a3_0, .int .i64 a3_1] ∧ InB s2.a x14 s2.n ∧ (((padd s2.a ((x14 : Int).toNat * 2))).isSome = true ∧ Wr w13 (padd s2.a ((x14 : Int).toNat * 2)) 2) ∧ pblk (padd s2.a ((x14 : Int).toNat * 2)) ≠ some w.heap.size ∧ (∀ w15 : World, w15 = setP w13 (padd s2.a ((x14 : Int).toNat * 2)) [.int .i64 a3_0, .int .i64 a3_1] →
 Calls Tryd.prog n_runs_May #[.slice s2.a s2.n s2.c, .int .i64 ((s4.n : Nat) : Int)] w15 (fun e w16 => ∃ (b17 : Bool), e = .returned (.bool b17) ∧ w16.heap[w.heap.size]? = w15.heap[w.heap.size]? ∧ 
 Calls Tryd.prog n_ref05_May #[.slice s2.a s2.n s2.c, .int .i64 ((s4.n : Nat) : Int)] w16 (fun e w18 => ∃ (b19 : Bool), e = .returned (.bool b19) ∧ w18.heap[w.heap.size]? = w16.heap[w.heap.size]? ∧ 
 Br (b17 == b19)
 (Calls Tryd.prog n_law05_lives #[] w18 (fun e w20 => ∃ (b21 : Bool), e = .returned (.bool b21) ∧ w20.heap[w.heap.size]? = w18.heap[w.heap.size]? ∧ 
 R (.returned (.bool b21)) w20))
 (R (.returned (.bool false)) w18)))))))))))))))
 (Calls Tryd.prog n_ref05_Good #[.slice a0.a a0.n a0.c] w0 (fun e w22 => ∃ (s23 : Sl), e = .returned (.slice s23.a s23.n s23.c) ∧ w22.heap[w.heap.size]? = w0.heap[w.heap.size]? ∧ 
 Calls Tryd.prog n_ref05_Cells #[.slice s23.a s23.n s23.c] w22 (fun e w24 => ∃ (s25 : Sl), e = .returned (.slice s25.a s25.n s25.c) ∧ w24.heap[w.heap.size]? = w22.heap[w.heap.size]? ∧ 
 Calls Tryd.prog n_runs_May #[.slice a0.a a0.n a0.c, .int .i64 a1] w24 (fun e w26 => ∃ (b27 : Bool), e = .returned (.bool b27) ∧ w26.heap[w.heap.size]? = w24.heap[w.heap.size]? ∧ 
 Calls Tryd.prog n_ref05_May #[.slice a0.a a0.n a0.c, .int .i64 a1] w26 (fun e w28 => ∃ (b29 : Bool), e = .returned (.bool b29) ∧ w28.heap[w.heap.size]? = w26.heap[w.heap.size]? ∧ 
 Br (!(b27 == b29))
 (R (.returned (.bool false)) w28)
 (Calls Tryd.prog n_runs_May #[.slice s23.a s23.n s23.c, .int .i64 ((s25.n : Nat) : Int)] w28 (fun e w30 => ∃ (b31 : Bool), e = .returned (.bool b31) ∧ w30.heap[w.heap.size]? = w28.heap[w.heap.size]? ∧ 
 Br (!b31)
 (R (.returned (.bool false)) w30)
 (Calls Tryd.prog n_runs_May #[.slice s23.a s23.n s23.c, .int .i64 (IntKind.wrap .i64 (((s25.n : Nat) : Int) + 1))] w30 (fun e w32 => ∃ (b33 : Bool), e = .returned (.bool b33) ∧ w32.heap[w.heap.size]? = w30.heap[w.heap.size]? ∧ 
 Br b33
 (R (.returned (.bool false)) w32)
 (Calls Tryd.prog n_ref01_Around #[.int .i64 a2, .int .i64 ((s23.n : Nat) : Int)] w32.drew (fun e w34 => ∃ (x35 : Int), e = .returned (.int .i64 x35) ∧ w34.heap[w.heap.size]? = w32.drew.heap[w.heap.size]? ∧ 
 LoadL w34 (some ⟨w.heap.size, 0, none⟩) 0 [.int .i64 a3_0, .int .i64 a3_1] ∧ InB s23.a x35 s23.n ∧ (((padd s23.a ((x35 : Int).toNat * 2))).isSome = true ∧ Wr w34 (padd s23.a ((x35 : Int).toNat * 2)) 2) ∧ pblk (padd s23.a ((x35 : Int).toNat * 2)) ≠ some w.heap.size ∧ (∀ w36 : World, w36 = setP w34 (padd s23.a ((x35 : Int).toNat * 2)) [.int .i64 a3_0, .int .i64 a3_1] →
 Calls Tryd.prog n_runs_May #[.slice s23.a s23.n s23.c, .int .i64 ((s25.n : Nat) : Int)] w36 (fun e w37 => ∃ (b38 : Bool), e = .returned (.bool b38) ∧ w37.heap[w.heap.size]? = w36.heap[w.heap.size]? ∧ 
 Calls Tryd.prog n_ref05_May #[.slice s23.a s23.n s23.c, .int .i64 ((s25.n : Nat) : Int)] w37 (fun e w39 => ∃ (b40 : Bool), e = .returned (.bool b40) ∧ w39.heap[w.heap.size]? = w37.heap[w.heap.size]? ∧ 
 Br (b38 == b40)
 (Calls Tryd.prog n_law05_lives #[] w39 (fun e w41 => ∃ (b42 : Bool), e = .returned (.bool b42) ∧ w41.heap[w.heap.size]? = w39.heap[w.heap.size]? ∧ 
 R (.returned (.bool b42)) w41))
 (R (.returned (.bool false)) w39)))))))))))))))
theorem law05_RunsMay.vc {a0 a1 a2 a3_0 a3_1 w} {R : Ending → World → Prop} (h : law05_RunsMay.pre a0 a1 a2 a3_0 a3_1 w R) : Calls Tryd.prog n_law05_RunsMay #[.slice a0.a a0.n a0.c, .int .i64 a1, .int .i64 a2, .agg #[.int .i64 a3_0, .int .i64 a3_1]] w R :=
  calls_of_eq (an := ⟨[], [], []⟩) (args := [.slice a0.a a0.n a0.c, .int .i64 a1, .int .i64 a2, .agg #[.int .i64 a3_0, .int .i64 a3_1]]) Tryd.noNG Tryd.mixed Tryd.func7 h (by kernel_rfl)

/- breccia/breccialaw05.RunsFill  -/
def law05_RunsFill.pre (a0 : Sl) (a1 : Int) (a2 : Int) (a3 : Int) (w : World) (R : Ending → World → Prop) : Prop :=
 Calls Tryd.prog n_ref05_Good #[.slice a0.a a0.n a0.c] w (fun e w0 => ∃ (s1 : Sl), e = .returned (.slice s1.a s1.n s1.c) ∧ 
 Calls Tryd.prog n_ref05_Cells #[.slice s1.a s1.n s1.c] w0 (fun e w2 => ∃ (s3 : Sl), e = .returned (.slice s3.a s3.n s3.c) ∧ 
 Calls Tryd.prog n_runs_Fill #[.slice s1.a s1.n s1.c, .int .i64 a1, .int .i64 a2, .int .i64 a3] w2 (fun e w4 => ∃ (s5 : Sl), e = .returned (.slice s5.a s5.n s5.c) ∧ 
 Calls Tryd.prog n_ref04_Good #[.int .i64 a3] w4 (fun e w6 => ∃ (x7 : Int), e = .returned (.int .i64 x7) ∧ 
 Calls Tryd.prog n_runs_Fill #[.slice s1.a s1.n s1.c, .int .i64 0, .int .i64 ((s3.n : Nat) : Int), .int .i64 x7] w6 (fun e w8 => ∃ (s9 : Sl), e = .returned (.slice s9.a s9.n s9.c) ∧ 
 Calls Tryd.prog n_ref05_Fill #[.slice s1.a s1.n s1.c, .int .i64 a1, .int .i64 a2, .int .i64 a3] w8 (fun e w10 => ∃ (s11 : Sl), e = .returned (.slice s11.a s11.n s11.c) ∧ 
 Calls Tryd.prog n_ref05_Same #[.slice s5.a s5.n s5.c, .slice s11.a s11.n s11.c] w10 (fun e w12 => ∃ (b13 : Bool), e = .returned (.bool b13) ∧ 
 Br b13
 (Calls Tryd.prog n_runs_May #[.slice s5.a s5.n s5.c, .int .i64 ((s3.n : Nat) : Int)] w12 (fun e w14 => ∃ (b15 : Bool), e = .returned (.bool b15) ∧ 
 Br b15
 (Br ((((s9.n : Nat) : Int) : Int) == 1)
 (Calls Tryd.prog n_runs_Len #[.slice s9.a s9.n s9.c] w14 (fun e w16 => ∃ (x17 : Int), e = .returned (.int .i64 x17) ∧ 
 Br ((x17 : Int) == ((s3.n : Nat) : Int))
 (Calls Tryd.prog n_law05_lives #[] w16 (fun e w18 => ∃ (b19 : Bool), e = .returned (.bool b19) ∧ 
 R (.returned (.bool b19)) w18))
 (R (.returned (.bool false)) w16)))
 (R (.returned (.bool false)) w14))
 (R (.returned (.bool false)) w14)))
 (R (.returned (.bool false)) w12))))))))
theorem law05_RunsFill.vc {a0 a1 a2 a3 w} {R : Ending → World → Prop} (h : law05_RunsFill.pre a0 a1 a2 a3 w R) : Calls Tryd.prog n_law05_RunsFill #[.slice a0.a a0.n a0.c, .int .i64 a1, .int .i64 a2, .int .i64 a3] w R :=
  calls_of_eq (an := ⟨[], [], []⟩) (args := [.slice a0.a a0.n a0.c, .int .i64 a1, .int .i64 a2, .int .i64 a3]) Tryd.noNG Tryd.mixed Tryd.func8 h (by kernel_rfl)

/- breccia/breccialaw05.RunsBack  -/
def law05_RunsBack.pre (a0 : Sl) (a1 : Int) (a2 : Int) (w : World) (R : Ending → World → Prop) : Prop :=
 Calls Tryd.prog n_ref05_Good #[.slice a0.a a0.n a0.c] w (fun e w0 => ∃ (s1 : Sl), e = .returned (.slice s1.a s1.n s1.c) ∧ 
 Calls Tryd.prog n_ref05_Cells #[.slice s1.a s1.n s1.c] w0 (fun e w2 => ∃ (s3 : Sl), e = .returned (.slice s3.a s3.n s3.c) ∧ 
 Calls Tryd.prog n_ref01_Around #[.int .i64 a1, .int .i64 ((s3.n : Nat) : Int)] w2 (fun e w4 => ∃ (x5 : Int), e = .returned (.int .i64 x5) ∧ 
 Calls Tryd.prog n_runs_At #[.slice s1.a s1.n s1.c, .int .i64 x5] w4 (fun e w6 => ∃ (x7 : Int), e = .returned (.int .i64 x7) ∧ 
 Calls Tryd.prog n_ref04_Good #[.int .i64 a2] w6 (fun e w8 => ∃ (x9 : Int), e = .returned (.int .i64 x9) ∧ 
 Calls Tryd.prog n_runs_Set #[.slice s1.a s1.n s1.c, .int .i64 x5, .int .i64 x9] w8 (fun e w10 => ∃ (s11 : Sl), e = .returned (.slice s11.a s11.n s11.c) ∧ 
 ∃ I12 : Nat → Int → Int → World → Prop,
 (∃ n13, I12 n13 (0) (0) w10) ∧
 ∀ (n13 : Nat) (us14 : Nat → Value) (x15 : Int) (x16 : Int) (w17 : World), I12 n13 x15 x16 w17 →
 Br (decide ((x15 : Int) < 16))
 (Calls Tryd.prog n_runs_Count #[.slice s11.a s11.n s11.c, .int .i64 x15] w17 (fun e w19 => ∃ (x20 : Int), e = .returned (.int .i64 x20) ∧ 
 ∃ n18, n18 < n13 ∧ I12 n18 ((IntKind.wrap .i64 (x15 + 1))) ((IntKind.wrap .i64 (x16 + x20))) w19))
 (Calls Tryd.prog n_runs_Set #[.slice s11.a s11.n s11.c, .int .i64 x5, .int .i64 x7] w17 (fun e w21 => ∃ (s22 : Sl), e = .returned (.slice s22.a s22.n s22.c) ∧ 
 Calls Tryd.prog n_ref05_Same #[.slice s22.a s22.n s22.c, .slice s1.a s1.n s1.c] w21 (fun e w23 => ∃ (b24 : Bool), e = .returned (.bool b24) ∧ 
 Br b24
 (Calls Tryd.prog n_runs_Len #[.slice s1.a s1.n s1.c] w23 (fun e w25 => ∃ (x26 : Int), e = .returned (.int .i64 x26) ∧ 
 Br ((x16 : Int) == x26)
 (Calls Tryd.prog n_law05_lives #[] w25 (fun e w27 => ∃ (b28 : Bool), e = .returned (.bool b28) ∧ 
 R (.returned (.bool b28)) w27))
 (R (.returned (.bool false)) w25)))
 (R (.returned (.bool false)) w23))))))))))
theorem law05_RunsBack.vc {a0 a1 a2 w} {R : Ending → World → Prop} (h : law05_RunsBack.pre a0 a1 a2 w R) : Calls Tryd.prog n_law05_RunsBack #[.slice a0.a a0.n a0.c, .int .i64 a1, .int .i64 a2] w R :=
  calls_of_eq (an := ⟨[(7, ⟨[(11, .int .i64), (10, .int .i64)], [], []⟩)], [], []⟩) (args := [.slice a0.a a0.n a0.c, .int .i64 a1, .int .i64 a2]) Tryd.noNG Tryd.mixed Tryd.func9 h (by kernel_rfl)

/- breccia/breccialaw05.RunsSet  -/
def law05_RunsSet.pre (a0 : Sl) (a1 : Int) (a2 : Int) (w : World) (R : Ending → World → Prop) : Prop :=
 Calls Tryd.prog n_ref05_Good #[.slice a0.a a0.n a0.c] w (fun e w0 => ∃ (s1 : Sl), e = .returned (.slice s1.a s1.n s1.c) ∧ 
 Calls Tryd.prog n_ref05_Cells #[.slice s1.a s1.n s1.c] w0 (fun e w2 => ∃ (s3 : Sl), e = .returned (.slice s3.a s3.n s3.c) ∧ 
 Calls Tryd.prog n_ref01_Around #[.int .i64 a1, .int .i64 ((s3.n : Nat) : Int)] w2 (fun e w4 => ∃ (x5 : Int), e = .returned (.int .i64 x5) ∧ 
 Calls Tryd.prog n_ref04_Good #[.int .i64 a2] w4 (fun e w6 => ∃ (x7 : Int), e = .returned (.int .i64 x7) ∧ 
 Calls Tryd.prog n_runs_Set #[.slice s1.a s1.n s1.c, .int .i64 a1, .int .i64 a2] w6 (fun e w8 => ∃ (s9 : Sl), e = .returned (.slice s9.a s9.n s9.c) ∧ 
 Calls Tryd.prog n_runs_Set #[.slice s1.a s1.n s1.c, .int .i64 x5, .int .i64 x7] w8 (fun e w10 => ∃ (s11 : Sl), e = .returned (.slice s11.a s11.n s11.c) ∧ 
 Calls Tryd.prog n_ref05_Set #[.slice s1.a s1.n s1.c, .int .i64 a1, .int .i64 a2] w10 (fun e w12 => ∃ (s13 : Sl), e = .returned (.slice s13.a s13.n s13.c) ∧ 
 Calls Tryd.prog n_ref05_Same #[.slice s9.a s9.n s9.c, .slice s13.a s13.n s13.c] w12 (fun e w14 => ∃ (b15 : Bool), e = .returned (.bool b15) ∧ 
 Br (!b15)
 (R (.returned (.bool false)) w14)
 (Calls Tryd.prog n_ref05_Set #[.slice s1.a s1.n s1.c, .int .i64 x5, .int .i64 x7] w14 (fun e w16 => ∃ (s17 : Sl), e = .returned (.slice s17.a s17.n s17.c) ∧ 
 Calls Tryd.prog n_ref05_Same #[.slice s11.a s11.n s11.c, .slice s17.a s17.n s17.c] w16 (fun e w18 => ∃ (b19 : Bool), e = .returned (.bool b19) ∧ 
 Br (!b19)
 (R (.returned (.bool false)) w18)
 (Calls Tryd.prog n_runs_At #[.slice s1.a s1.n s1.c, .int .i64 a1] w18 (fun e w20 => ∃ (x21 : Int), e = .returned (.int .i64 x21) ∧ 
 Calls Tryd.prog n_ref05_At #[.slice s1.a s1.n s1.c, .int .i64 a1] w20 (fun e w22 => ∃ (x23 : Int), e = .returned (.int .i64 x23) ∧ 
 Br ((x21 : Int) == x23)
 (Calls Tryd.prog n_runs_At #[.slice s11.a s11.n s11.c, .int .i64 x5] w22 (fun e w24 => ∃ (x25 : Int), e = .returned (.int .i64 x25) ∧ 
 Br ((x25 : Int) == x7)
 (Calls Tryd.prog n_runs_May #[.slice s11.a s11.n s11.c, .int .i64 ((s3.n : Nat) : Int)] w24 (fun e w26 => ∃ (b27 : Bool), e = .returned (.bool b27) ∧ 
 Br b27
 (Calls Tryd.prog n_runs_At #[.slice s1.a s1.n s1.c, .int .i64 (-1)] w26 (fun e w28 => ∃ (x29 : Int), e = .returned (.int .i64 x29) ∧ 
 Br ((x29 : Int) == (-1))
 (Calls Tryd.prog n_runs_At #[.slice s1.a s1.n s1.c, .int .i64 ((s3.n : Nat) : Int)] w28 (fun e w30 => ∃ (x31 : Int), e = .returned (.int .i64 x31) ∧ 
 Br ((x31 : Int) == (-1))
 (Calls Tryd.prog n_ref05_Good #[.slice a0.a a0.n a0.c] w30 (fun e w32 => ∃ (s33 : Sl), e = .returned (.slice s33.a s33.n s33.c) ∧ 
 Calls Tryd.prog n_ref05_Same #[.slice s1.a s1.n s1.c, .slice s33.a s33.n s33.c] w32 (fun e w34 => ∃ (b35 : Bool), e = .returned (.bool b35) ∧ 
 Br b35
 (Calls Tryd.prog n_law05_lives #[] w34 (fun e w36 => ∃ (b37 : Bool), e = .returned (.bool b37) ∧ 
 R (.returned (.bool b37)) w36))
 (R (.returned (.bool false)) w34))))
 (R (.returned (.bool false)) w30)))
 (R (.returned (.bool false)) w28)))
 (R (.returned (.bool false)) w26)))
 (R (.returned (.bool false)) w24)))
 (R (.returned (.bool false)) w22)))))))))))))))
theorem law05_RunsSet.vc {a0 a1 a2 w} {R : Ending → World → Prop} (h : law05_RunsSet.pre a0 a1 a2 w R) : Calls Tryd.prog n_law05_RunsSet #[.slice a0.a a0.n a0.c, .int .i64 a1, .int .i64 a2] w R :=
  calls_of_eq (an := ⟨[], [], []⟩) (args := [.slice a0.a a0.n a0.c, .int .i64 a1, .int .i64 a2]) Tryd.noNG Tryd.mixed Tryd.func10 h (by kernel_rfl)

/- breccia/breccialaw05.RunsMake  -/
def law05_RunsMake.pre (a0 : Int) (a1 : Int) (w : World) (R : Ending → World → Prop) : Prop :=
 Calls Tryd.prog n_ref04_Good #[.int .i64 a1] w (fun e w0 => ∃ (x1 : Int), e = .returned (.int .i64 x1) ∧ 
 Calls Tryd.prog n_runs_Make #[.int .i64 (if 500 < a0 then 500 else a0), .int .i64 x1] w0 (fun e w2 => ∃ (s3 : Sl), e = .returned (.slice s3.a s3.n s3.c) ∧ 
 Br (decide (((if 500 < a0 then 500 else a0) : Int) < 1))
 (Br ((((s3.n : Nat) : Int) : Int) == 0)
 (Calls Tryd.prog n_runs_Len #[.slice s3.a s3.n s3.c] w2 (fun e w4 => ∃ (x5 : Int), e = .returned (.int .i64 x5) ∧ 
 Br ((x5 : Int) == 0)
 (Calls Tryd.prog n_law05_lives #[] w4 (fun e w6 => ∃ (b7 : Bool), e = .returned (.bool b7) ∧ 
 R (.returned (.bool b7)) w6))
 (R (.returned (.bool false)) w4)))
 (R (.returned (.bool false)) w2))
 (∀ w8 : World, w8 = w2.alloc (.cells #[.int .i64 (if 500 < a0 then 500 else a0), .int .i64 x1] 35) →
 Calls Tryd.prog n_ref05_Same #[.slice s3.a s3.n s3.c, .slice (some ⟨w2.heap.size, 0, none⟩) 1 1] w8 (fun e w9 => ∃ (b10 : Bool), e = .returned (.bool b10) ∧ 
 Br b10
 (Calls Tryd.prog n_runs_May #[.slice s3.a s3.n s3.c, .int .i64 (if 500 < a0 then 500 else a0)] w9 (fun e w11 => ∃ (b12 : Bool), e = .returned (.bool b12) ∧ 
 Br b12
 (Calls Tryd.prog n_runs_Count #[.slice s3.a s3.n s3.c, .int .i64 x1] w11 (fun e w13 => ∃ (x14 : Int), e = .returned (.int .i64 x14) ∧ 
 Br ((x14 : Int) == (if 500 < a0 then 500 else a0))
 (Calls Tryd.prog n_law05_lives #[] w13 (fun e w15 => ∃ (b16 : Bool), e = .returned (.bool b16) ∧ 
 R (.returned (.bool b16)) w15))
 (R (.returned (.bool false)) w13)))
 (R (.returned (.bool false)) w11)))
 (R (.returned (.bool false)) w9)))))
theorem law05_RunsMake.vc {a0 a1 w} {R : Ending → World → Prop} (h : law05_RunsMake.pre a0 a1 w R) : Calls Tryd.prog n_law05_RunsMake #[.int .i64 a0, .int .i64 a1] w R :=
  calls_of_eq (an := ⟨[], [], []⟩) (args := [.int .i64 a0, .int .i64 a1]) Tryd.noNG Tryd.mixed Tryd.func11 h (by kernel_rfl)

/- breccia/breccialaw05.RunsCells  -/
def law05_RunsCells.pre (a0 : Sl) (a1 : Sl) (w : World) (R : Ending → World → Prop) : Prop :=
 ∀ w0 : World, w0 = w.alloc (.cells #[.bool false] 4) →
 Calls Tryd.prog n_ref05_Blocks #[.slice a0.a a0.n a0.c, .int .i64 300] w0 (fun e w1 => ∃ (s2 : Sl), e = .returned (.slice s2.a s2.n s2.c) ∧ w1.heap[w.heap.size]? = w0.heap[w.heap.size]? ∧ 
 Calls Tryd.prog n_runs_Of #[.slice s2.a s2.n s2.c] w1 (fun e w3 => ∃ (s4 : Sl), e = .returned (.slice s4.a s4.n s4.c) ∧ w3.heap[w.heap.size]? = w1.heap[w.heap.size]? ∧ 
 Calls Tryd.prog n_ref05_Of #[.slice s2.a s2.n s2.c] w3 (fun e w5 => ∃ (s6 : Sl), e = .returned (.slice s6.a s6.n s6.c) ∧ w5.heap[w.heap.size]? = w3.heap[w.heap.size]? ∧ 
 Calls Tryd.prog n_ref05_Same #[.slice s4.a s4.n s4.c, .slice s6.a s6.n s6.c] w5 (fun e w7 => ∃ (b8 : Bool), e = .returned (.bool b8) ∧ w7.heap[w.heap.size]? = w5.heap[w.heap.size]? ∧ 
 Br (!b8)
 (∀ w9 : World, w9 = w7.setRow w.heap.size #[.bool false] →
 R (.returned (.bool false)) w9)
 (Calls Tryd.prog n_runs_Cells #[.slice s4.a s4.n s4.c] w7 (fun e w10 => ∃ (s11 : Sl), e = .returned (.slice s11.a s11.n s11.c) ∧ w10.heap[w.heap.size]? = w7.heap[w.heap.size]? ∧ 
 Calls Tryd.prog n_ref05_SameCells #[.slice s11.a s11.n s11.c, .slice s2.a s2.n s2.c] w10 (fun e w12 => ∃ (b13 : Bool), e = .returned (.bool b13) ∧ w12.heap[w.heap.size]? = w10.heap[w.heap.size]? ∧ 
 Br (!b13)
 (∀ w14 : World, w14 = w12.setRow w.heap.size #[.bool false] →
 R (.returned (.bool false)) w14)
 (Calls Tryd.prog n_runs_Len #[.slice s4.a s4.n s4.c] w12 (fun e w15 => ∃ (x16 : Int), e = .returned (.int .i64 x16) ∧ w15.heap[w.heap.size]? = w12.heap[w.heap.size]? ∧ 
 Br ((x16 : Int) != ((s2.n : Nat) : Int))
 (∀ w17 : World, w17 = w15.setRow w.heap.size #[.bool false] →
 R (.returned (.bool false)) w17)
 (Calls Tryd.prog n_ref05_Good #[.slice a1.a a1.n a1.c] w15 (fun e w18 => ∃ (s19 : Sl), e = .returned (.slice s19.a s19.n s19.c) ∧ w18.heap[w.heap.size]? = w15.heap[w.heap.size]? ∧ 
 Calls Tryd.prog n_runs_All #[.slice s19.a s19.n s19.c] w18 (fun e w20 => ∃ (v21 : Value), e = .returned (v21) ∧ w20.heap[w.heap.size]? = w18.heap[w.heap.size]? ∧ 
 AndL (fnC v21) (Br (isNilF v21)
 (∀ w22 : World, w22 = w20.setRow w.heap.size #[.bool false] →
 R (.returned (.bool false)) w22)
 (Calls Tryd.prog n_ref05_Cells #[.slice s19.a s19.n s19.c] w20 (fun e w23 => ∃ (s24 : Sl), e = .returned (.slice s24.a s24.n s24.c) ∧ w23.heap[w.heap.size]? = w20.heap[w.heap.size]? ∧ 
 ∀ w25 : World, w25 = w23.alloc (.cells #[.slice none 0 0] 32) →
 ∀ w26 : World, w26 = w25.setRow w23.heap.size #[.slice s24.a s24.n s24.c] →
 ∀ w27 : World, w27 = w26.alloc (.cells #[.int .i64 0] 3) →
 ∀ w28 : World, w28 = w27.setRow w26.heap.size #[.int .i64 0] →
 ∃ (xs29 : List (List Value)) (Rd30 F31 : Nat → Prop) (I32 : Nat → (Nat → Prop) → Bool → Int → World → Prop) (X33 : Option Nat → (Nat → Prop) → Bool → Int → World → Prop),
 (∀ x ∈ xs29, ∃ (x34 : Int) (x35 : Int), x = [.int .i64 x34, .int .i64 x35]) ∧
 (∀ (n36 : Nat) (F37 : Nat → Prop) (b38 : Bool) (x39 : Int) (w40 w41 : World), I32 n36 F37 b38 x39 w40 → Below w28.heap.size w40 w41 → (∀ i, F37 i → w41.heap[i]? = w40.heap[i]?) → I32 n36 F37 b38 x39 w41) ∧
 (∀ (n42 : Option Nat) (F43 : Nat → Prop) (b44 : Bool) (x45 : Int) (w46 w47 : World), X33 n42 F43 b44 x45 w46 → Below w28.heap.size w46 w47 → (∀ i, F43 i → w47.heap[i]? = w46.heap[i]?) → X33 n42 F43 b44 x45 w47) ∧
 (∀ (n48 : Nat) (F49 : Nat → Prop) (b50 : Bool) (x51 : Int) (w52 : World), I32 n48 F49 b50 x51 w52 → ∀ i, F49 i → i < w52.heap.size ∧ i ≠ w28.heap.size ∧ i ≠ w28.heap.size + 1) ∧
 (∀ (n53 : Option Nat) (F54 : Nat → Prop) (b55 : Bool) (x56 : Int) (w57 : World), X33 n53 F54 b55 x56 w57 → ∀ i, F54 i → i < w57.heap.size ∧ i ≠ w28.heap.size ∧ i ≠ w28.heap.size + 1) ∧
 (∀ i, Rd30 i → i < w28.heap.size ∧ ¬ F31 i ∧ i ≠ w.heap.size ∧ i ≠ w23.heap.size ∧ i ≠ w26.heap.size ∧ True) ∧
 (∀ w58 : World, Begun w28.heap.size w28 w58 → Iter Tryd.prog (v21) w58 Rd30 xs29 ∧ ([.slice s24.a s24.n s24.c] : List Value) = [.slice s24.a s24.n s24.c] ∧ I32 0 F31 false (0) w58) ∧
 (∀ (n59 : Nat) (F60 : Nat → Prop) (us61 : Nat → Value) (b62 : Bool) (x63 : Int) (x64 : Int) (x65 : Int) (w66 : World), xs29[n59]? = some [.int .i64 x64, .int .i64 x65] → I32 n59 F60 b62 x63 w66 →
 Below w66.heap.size w66 w66 ∧ ∀ w67 : World, Rec (w28.heap.size + 1) w66 w67 → I32 n59 F60 b62 x63 w67 →
 Br (decide ((x63 : Int) ≥ ((s24.n : Nat) : Int)))
 (∀ w68 : World, w68 = w67.setRow w.heap.size #[.bool false] →
 true = true ∧ ∃ F69 : Nat → Prop, (([.slice s24.a s24.n s24.c] : List Value) = [.slice s24.a s24.n s24.c] ∧ X33 none F69 false (x63) w68) ∧ Step (fun i => F60 i ∨ i ∈ ([w.heap.size, w23.heap.size, w26.heap.size] : List Nat)) (fun i => F69 i ∨ i ∈ ([w.heap.size, w23.heap.size, w26.heap.size] : List Nat)) w67 w68)
 (Br ((x64 : Int) != x63)
 (∀ w70 : World, w70 = w67.setRow w.heap.size #[.bool false] →
 true = true ∧ ∃ F71 : Nat → Prop, (([.slice s24.a s24.n s24.c] : List Value) = [.slice s24.a s24.n s24.c] ∧ X33 none F71 false (x63) w70) ∧ Step (fun i => F60 i ∨ i ∈ ([w.heap.size, w23.heap.size, w26.heap.size] : List Nat)) (fun i => F71 i ∨ i ∈ ([w.heap.size, w23.heap.size, w26.heap.size] : List Nat)) w67 w70)
 (InB s24.a x63 s24.n ∧ ∃ (x72 : Int), ld w67 (padd s24.a ((x63 : Int).toNat * 1)) = some (.int .i64 x72) ∧
 Br ((x65 : Int) != x72)
 (∀ w73 : World, w73 = w67.setRow w.heap.size #[.bool false] →
 true = true ∧ ∃ F74 : Nat → Prop, (([.slice s24.a s24.n s24.c] : List Value) = [.slice s24.a s24.n s24.c] ∧ X33 none F74 false (x63) w73) ∧ Step (fun i => F60 i ∨ i ∈ ([w.heap.size, w23.heap.size, w26.heap.size] : List Nat)) (fun i => F74 i ∨ i ∈ ([w.heap.size, w23.heap.size, w26.heap.size] : List Nat)) w67 w73)
 (∀ w75 : World, w75 = w67.setRow w26.heap.size #[.int .i64 (IntKind.wrap .i64 (x63 + 1))] →
 ∃ F76 : Nat → Prop, (([.slice s24.a s24.n s24.c] : List Value) = [.slice s24.a s24.n s24.c] ∧ I32 (n59 + 1) F76 b62 ((IntKind.wrap .i64 (x63 + 1))) w75) ∧ Step (fun i => F60 i ∨ i ∈ ([w.heap.size, w23.heap.size, w26.heap.size] : List Nat)) (fun i => F76 i ∨ i ∈ ([w.heap.size, w23.heap.size, w26.heap.size] : List Nat)) w67 w75)))) ∧
 (∀ (F77 : Nat → Prop) (us78 : Nat → Value) (b79 : Bool) (x80 : Int) (w81 : World), I32 xs29.length F77 b79 x80 w81 → w81.heap[w28.heap.size]? = some (.deferred (some [])) →
 Br ((x80 : Int) == ((s24.n : Nat) : Int))
 (Calls Tryd.prog n_runs_Cells #[.slice s19.a s19.n s19.c] w81 (fun e w82 => ∃ (s83 : Sl), e = .returned (.slice s83.a s83.n s83.c) ∧ w82.heap[w.heap.size]? = w81.heap[w.heap.size]? ∧ w82.heap[w23.heap.size]? = w81.heap[w23.heap.size]? ∧ w82.heap[w26.heap.size]? = w81.heap[w26.heap.size]? ∧ 
 Calls Tryd.prog n_runs_Of #[.slice s83.a s83.n s83.c] w82 (fun e w84 => ∃ (s85 : Sl), e = .returned (.slice s85.a s85.n s85.c) ∧ w84.heap[w.heap.size]? = w82.heap[w.heap.size]? ∧ w84.heap[w23.heap.size]? = w82.heap[w23.heap.size]? ∧ w84.heap[w26.heap.size]? = w82.heap[w26.heap.size]? ∧ 
 Calls Tryd.prog n_ref05_Same #[.slice s85.a s85.n s85.c, .slice s19.a s19.n s19.c] w84 (fun e w86 => ∃ (b87 : Bool), e = .returned (.bool b87) ∧ w86.heap[w.heap.size]? = w84.heap[w.heap.size]? ∧ w86.heap[w23.heap.size]? = w84.heap[w23.heap.size]? ∧ w86.heap[w26.heap.size]? = w84.heap[w26.heap.size]? ∧ 
 Br b87
 (Calls Tryd.prog n_law05_lives #[] w86 (fun e w88 => ∃ (b89 : Bool), e = .returned (.bool b89) ∧ w88.heap[w.heap.size]? = w86.heap[w.heap.size]? ∧ w88.heap[w23.heap.size]? = w86.heap[w23.heap.size]? ∧ w88.heap[w26.heap.size]? = w86.heap[w26.heap.size]? ∧ 
 ∀ w90 : World, w90 = w88.setRow w.heap.size #[.bool b89] →
 w90.heap[w28.heap.size]? = some (.deferred (some [])) ∧ ∀ w91 : World, Rec w28.heap.size w90 w91 →
 R (.returned (.bool b89)) w91))
 (∀ w92 : World, w92 = w86.setRow w.heap.size #[.bool false] →
 w92.heap[w28.heap.size]? = some (.deferred (some [])) ∧ ∀ w93 : World, Rec w28.heap.size w92 w93 →
 R (.returned (.bool false)) w93)))))
 (∀ w94 : World, w94 = w81.setRow w.heap.size #[.bool false] →
 w94.heap[w28.heap.size]? = some (.deferred (some [])) ∧ ∀ w95 : World, Rec w28.heap.size w94 w95 →
 R (.returned (.bool false)) w95)) ∧
 (∀ (F96 : Nat → Prop) (us97 : Nat → Value) (b98 : Bool) (x99 : Int) (w100 : World), X33 none F96 b98 x99 w100 → w100.heap[w28.heap.size]? = some (.deferred (some [])) →
 w100.heap[w28.heap.size]? = some (.deferred (some [])) ∧ ∀ w101 : World, Rec w28.heap.size w100 w101 →
 R (.returned (.bool b98)) w101))))))))))))))))
theorem law05_RunsCells.vc {a0 a1 w} {R : Ending → World → Prop} (h : law05_RunsCells.pre a0 a1 w R) : Calls Tryd.prog n_law05_RunsCells #[.slice a0.a a0.n a0.c, .slice a1.a a1.n a1.c] w R :=
  calls_of_eq (an := ⟨[], [], [(14, ⟨[], [(0, [.bool]), (2, [.int .i64])], []⟩, [.sc (.int .i64), .sc (.int .i64)])]⟩) (args := [.slice a0.a a0.n a0.c, .slice a1.a a1.n a1.c]) Tryd.noNG Tryd.mixed Tryd.func12 h (by kernel_rfl)

/- breccia/breccialaw06.CodeRound  -/
def law06_CodeRound.pre (a0 : Sl) (a1 : Int) (a2 : Int) (w : World) (R : Ending → World → Prop) : Prop :=
 Calls Tryd.prog n_ref05_Good #[.slice a0.a a0.n a0.c] w (fun e w0 => ∃ (s1 : Sl), e = .returned (.slice s1.a s1.n s1.c) ∧ 
 Calls Tryd.prog n_ref05_Cells #[.slice s1.a s1.n s1.c] w0 (fun e w2 => ∃ (s3 : Sl), e = .returned (.slice s3.a s3.n s3.c) ∧ 
 Calls Tryd.prog n_code_Write #[.slice s1.a s1.n s1.c] w2 (fun e w4 => ∃ (s5 : Sl) (x6 : Int), e = .returned (.tuple #[.slice s5.a s5.n s5.c, .int .i64 x6]) ∧ 
 Br ((x6 : Int) != 0)
 (R (.returned (.bool false)) w4)
 (Br (decide ((((s5.n : Nat) : Int) : Int) < 2))
 (R (.returned (.bool false)) w4)
 (Calls Tryd.prog n_code_Read #[.slice s5.a s5.n s5.c, .int .i64 ((s3.n : Nat) : Int)] w4 (fun e w7 => ∃ (s8 : Sl) (x9 : Int), e = .returned (.tuple #[.slice s8.a s8.n s8.c, .int .i64 x9]) ∧ 
 Br ((x9 : Int) != 0)
 (R (.returned (.bool false)) w7)
 (Calls Tryd.prog n_ref05_Same #[.slice s8.a s8.n s8.c, .slice s1.a s1.n s1.c] w7 (fun e w10 => ∃ (b11 : Bool), e = .returned (.bool b11) ∧ 
 Br (!b11)
 (R (.returned (.bool false)) w10)
 (Calls Tryd.prog n_ref01_Around #[.int .i64 a2, .int .i64 600] w10 (fun e w12 => ∃ (x13 : Int), e = .returned (.int .i64 x13) ∧ 
 Calls Tryd.prog n_code_Read #[.slice s5.a s5.n s5.c, .int .i64 (IntKind.wrap .i64 (1 + x13))] w12 (fun e w14 => ∃ (s15 : Sl) (x16 : Int), e = .returned (.tuple #[.slice s15.a s15.n s15.c, .int .i64 x16]) ∧ 
 Br (!(((x16 : Int) == 0) == (((IntKind.wrap .i64 (1 + x13)) : Int) == ((s3.n : Nat) : Int))))
 (R (.returned (.bool false)) w14)
 (Br (((IntKind.wrap .i64 (1 + x13)) : Int) != ((s3.n : Nat) : Int))
 (Br (decide ((((s15.n : Nat) : Int) : Int) > 0))
 (R (.returned (.bool false)) w14)
 (∃ l17 : List Value, Rd w14 s5.a l17 ∧ AppPre 1 1 w14 ⟨none, 0, 0⟩ s5.n l17 ∧ ∀ (s18 : Sl) (w19 : World), AppRes 5 1 w14 ⟨none, 0, 0⟩ s5.n l17 s18 w19 → 
 ∀ w20 : World, w20 = w19.alloc (.cells #[.int .u8 a1] 5) →
 AppPre 1 1 w20 ⟨s18.a, s18.n, s18.c⟩ 1 [.int .u8 a1] ∧ ∀ (s21 : Sl) (w22 : World), AppRes 5 1 w20 ⟨s18.a, s18.n, s18.c⟩ 1 [.int .u8 a1] s21 w22 → w22.heap[w19.heap.size]? = w20.heap[w19.heap.size]? ∧ 
 Calls Tryd.prog n_code_Read #[.slice s21.a s21.n s21.c, .int .i64 ((s3.n : Nat) : Int)] w22 (fun e w23 => ∃ (s24 : Sl) (x25 : Int), e = .returned (.tuple #[.slice s24.a s24.n s24.c, .int .i64 x25]) ∧ w23.heap[w19.heap.size]? = w22.heap[w19.heap.size]? ∧ 
 (0 : Int) ≤ (IntKind.wrap .i64 (((s5.n : Nat) : Int) - 1)) ∧ (IntKind.wrap .i64 (((s5.n : Nat) : Int) - 1)) ≤ ((s5.c : Nat) : Int) ∧ Calls Tryd.prog n_code_Read #[.slice (slBase s5.a (0) (s5.c) 1) (((IntKind.wrap .i64 (((s5.n : Nat) : Int) - 1)) : Int).toNat - 0) (s5.c - 0), .int .i64 ((s3.n : Nat) : Int)] w23 (fun e w26 => ∃ (s27 : Sl) (x28 : Int), e = .returned (.tuple #[.slice s27.a s27.n s27.c, .int .i64 x28]) ∧ w26.heap[w19.heap.size]? = w23.heap[w19.heap.size]? ∧ 
 Br ((x25 : Int) == 2)
 (Br ((x28 : Int) != 0)
 (Calls Tryd.prog n_law06_lives #[] w26 (fun e w29 => ∃ (b30 : Bool), e = .returned (.bool b30) ∧ w29.heap[w19.heap.size]? = w26.heap[w19.heap.size]? ∧ 
 R (.returned (.bool b30)) w29))
 (R (.returned (.bool false)) w26))
 (R (.returned (.bool false)) w26)))))
 (∃ l31 : List Value, Rd w14 s5.a l31 ∧ AppPre 1 1 w14 ⟨none, 0, 0⟩ s5.n l31 ∧ ∀ (s32 : Sl) (w33 : World), AppRes 5 1 w14 ⟨none, 0, 0⟩ s5.n l31 s32 w33 → 
 ∀ w34 : World, w34 = w33.alloc (.cells #[.int .u8 a1] 5) →
 AppPre 1 1 w34 ⟨s32.a, s32.n, s32.c⟩ 1 [.int .u8 a1] ∧ ∀ (s35 : Sl) (w36 : World), AppRes 5 1 w34 ⟨s32.a, s32.n, s32.c⟩ 1 [.int .u8 a1] s35 w36 → w36.heap[w33.heap.size]? = w34.heap[w33.heap.size]? ∧ 
 Calls Tryd.prog n_code_Read #[.slice s35.a s35.n s35.c, .int .i64 ((s3.n : Nat) : Int)] w36 (fun e w37 => ∃ (s38 : Sl) (x39 : Int), e = .returned (.tuple #[.slice s38.a s38.n s38.c, .int .i64 x39]) ∧ w37.heap[w33.heap.size]? = w36.heap[w33.heap.size]? ∧ 
 (0 : Int) ≤ (IntKind.wrap .i64 (((s5.n : Nat) : Int) - 1)) ∧ (IntKind.wrap .i64 (((s5.n : Nat) : Int) - 1)) ≤ ((s5.c : Nat) : Int) ∧ Calls Tryd.prog n_code_Read #[.slice (slBase s5.a (0) (s5.c) 1) (((IntKind.wrap .i64 (((s5.n : Nat) : Int) - 1)) : Int).toNat - 0) (s5.c - 0), .int .i64 ((s3.n : Nat) : Int)] w37 (fun e w40 => ∃ (s41 : Sl) (x42 : Int), e = .returned (.tuple #[.slice s41.a s41.n s41.c, .int .i64 x42]) ∧ w40.heap[w33.heap.size]? = w37.heap[w33.heap.size]? ∧ 
 Br ((x39 : Int) == 2)
 (Br ((x42 : Int) != 0)
 (Calls Tryd.prog n_law06_lives #[] w40 (fun e w43 => ∃ (b44 : Bool), e = .returned (.bool b44) ∧ w43.heap[w33.heap.size]? = w40.heap[w33.heap.size]? ∧ 
 R (.returned (.bool b44)) w43))
 (R (.returned (.bool false)) w40))
 (R (.returned (.bool false)) w40))))))))))))))))
theorem law06_CodeRound.vc {a0 a1 a2 w} {R : Ending → World → Prop} (h : law06_CodeRound.pre a0 a1 a2 w R) : Calls Tryd.prog n_law06_CodeRound #[.slice a0.a a0.n a0.c, .int .u8 a1, .int .i64 a2] w R :=
  calls_of_eq (an := ⟨[], [], []⟩) (args := [.slice a0.a a0.n a0.c, .int .u8 a1, .int .i64 a2]) Tryd.noNG Tryd.mixed Tryd.func13 h (by kernel_rfl)

/- breccia/breccialaw06.CodeReads  -/
def law06_CodeReads.pre (a0 : Sl) (a1 : Sl) (a2 : Int) (a3 : Int) (a4 : Int) (w : World) (R : Ending → World → Prop) : Prop :=
 Calls Tryd.prog n_ref05_Good #[.slice a1.a a1.n a1.c] w (fun e w0 => ∃ (s1 : Sl), e = .returned (.slice s1.a s1.n s1.c) ∧ 
 Calls Tryd.prog n_ref06_Write #[.slice s1.a s1.n s1.c] w0 (fun e w2 => ∃ (s3 : Sl) (x4 : Int), e = .returned (.tuple #[.slice s3.a s3.n s3.c, .int .i64 x4]) ∧ 
 Br ((((s3.n : Nat) : Int) : Int) == 0)
 (R (.returned (.bool false)) w2)
 (Calls Tryd.prog n_ref01_Around #[.int .i64 a2, .int .i64 ((s3.n : Nat) : Int)] w2 (fun e w5 => ∃ (x6 : Int), e = .returned (.int .i64 x6) ∧ 
 InB s3.a x6 s3.n ∧ (((padd s3.a ((x6 : Int).toNat * 1))).isSome = true ∧ Wr w5 (padd s3.a ((x6 : Int).toNat * 1)) 1) ∧ (∀ w7 : World, w7 = setP w5 (padd s3.a ((x6 : Int).toNat * 1)) [.int .u8 a3] →
 Calls Tryd.prog n_ref01_Around #[.int .i64 a4, .int .i64 1048576] w7 (fun e w8 => ∃ (x9 : Int), e = .returned (.int .i64 x9) ∧ 
 Calls Tryd.prog n_ref06_Few #[.slice a0.a a0.n a0.c, .int .i64 60] w8 (fun e w10 => ∃ (s11 : Sl), e = .returned (.slice s11.a s11.n s11.c) ∧ 
 ∀ w12 : World, w12 = w10.alloc (.cells #[.slice s11.a s11.n s11.c, .slice s3.a s3.n s3.c] 25) →
 Calls Tryd.prog n_ref05_Good #[.slice a1.a a1.n a1.c] w12 (fun e w13 => ∃ (s14 : Sl), e = .returned (.slice s14.a s14.n s14.c) ∧ w13.heap[w10.heap.size]? = w12.heap[w10.heap.size]? ∧ 
 Calls Tryd.prog n_ref05_Cells #[.slice s14.a s14.n s14.c] w13 (fun e w15 => ∃ (s16 : Sl), e = .returned (.slice s16.a s16.n s16.c) ∧ w15.heap[w10.heap.size]? = w13.heap[w10.heap.size]? ∧ 
 ∀ w17 : World, w17 = w15.alloc (.cells #[.int .i64 (IntKind.wrap .i64 (1 + x9)), .int .i64 ((s16.n : Nat) : Int)] 3) →
 ∃ I18 : Nat → Int → World → Prop,
 (∃ n19, ([.slice s11.a s11.n s11.c, .slice s3.a s3.n s3.c] : List Value) = [.slice s11.a s11.n s11.c, .slice s3.a s3.n s3.c] ∧ ([.int .i64 (IntKind.wrap .i64 (1 + x9)), .int .i64 ((s16.n : Nat) : Int)] : List Value) = [.int .i64 (IntKind.wrap .i64 (1 + x9)), .int .i64 ((s16.n : Nat) : Int)] ∧ I18 n19 (0) w17) ∧
 ∀ (n19 : Nat) (us20 : Nat → Value) (x21 : Int) (w22 : World), I18 n19 x21 w22 →
 Br (decide ((x21 : Int) < 2))
 (∃ I24 : Nat → Int → World → Prop,
 (∃ n25, ([.slice s11.a s11.n s11.c, .slice s3.a s3.n s3.c] : List Value) = [.slice s11.a s11.n s11.c, .slice s3.a s3.n s3.c] ∧ ([.int .i64 (IntKind.wrap .i64 (1 + x9)), .int .i64 ((s16.n : Nat) : Int)] : List Value) = [.int .i64 (IntKind.wrap .i64 (1 + x9)), .int .i64 ((s16.n : Nat) : Int)] ∧ I24 n25 (0) w22) ∧
 ∀ (n25 : Nat) (us26 : Nat → Value) (x27 : Int) (w28 : World), I24 n25 x27 w28 →
 Br (decide ((x27 : Int) < 2))
 (InB (some ⟨w10.heap.size, 0, none⟩) x21 2 ∧ ∃ (s30 : Sl), ld w28.drew (padd (some ⟨w10.heap.size, 0, none⟩) ((x21 : Int).toNat * 1)) = some (.slice s30.a s30.n s30.c) ∧
 InB (some ⟨w15.heap.size, 0, none⟩) x27 2 ∧ ∃ (x31 : Int), ld w28.drew (padd (some ⟨w15.heap.size, 0, none⟩) ((x27 : Int).toNat * 1)) = some (.int .i64 x31) ∧
 Calls Tryd.prog n_code_Read #[.slice s30.a s30.n s30.c, .int .i64 x31] w28.drew (fun e w32 => ∃ (s33 : Sl) (x34 : Int), e = .returned (.tuple #[.slice s33.a s33.n s33.c, .int .i64 x34]) ∧ w32.heap[w10.heap.size]? = w28.drew.heap[w10.heap.size]? ∧ w32.heap[w15.heap.size]? = w28.drew.heap[w15.heap.size]? ∧ 
 InB (some ⟨w10.heap.size, 0, none⟩) x21 2 ∧ ∃ (s35 : Sl), ld w32.drew (padd (some ⟨w10.heap.size, 0, none⟩) ((x21 : Int).toNat * 1)) = some (.slice s35.a s35.n s35.c) ∧
 InB (some ⟨w15.heap.size, 0, none⟩) x27 2 ∧ ∃ (x36 : Int), ld w32.drew (padd (some ⟨w15.heap.size, 0, none⟩) ((x27 : Int).toNat * 1)) = some (.int .i64 x36) ∧
 Calls Tryd.prog n_ref06_Read #[.slice s35.a s35.n s35.c, .int .i64 x36] w32.drew (fun e w37 => ∃ (s38 : Sl) (x39 : Int), e = .returned (.tuple #[.slice s38.a s38.n s38.c, .int .i64 x39]) ∧ w37.heap[w10.heap.size]? = w32.drew.heap[w10.heap.size]? ∧ w37.heap[w15.heap.size]? = w32.drew.heap[w15.heap.size]? ∧ 
 Br ((x34 : Int) != x39)
 (R (.returned (.bool false)) w37)
 (Calls Tryd.prog n_ref05_Same #[.slice s33.a s33.n s33.c, .slice s38.a s38.n s38.c] w37 (fun e w40 => ∃ (b41 : Bool), e = .returned (.bool b41) ∧ w40.heap[w10.heap.size]? = w37.heap[w10.heap.size]? ∧ w40.heap[w15.heap.size]? = w37.heap[w15.heap.size]? ∧ 
 Br (!b41)
 (R (.returned (.bool false)) w40)
 (∃ n29, n29 < n25 ∧ ([.slice s11.a s11.n s11.c, .slice s3.a s3.n s3.c] : List Value) = [.slice s11.a s11.n s11.c, .slice s3.a s3.n s3.c] ∧ ([.int .i64 (IntKind.wrap .i64 (1 + x9)), .int .i64 ((s16.n : Nat) : Int)] : List Value) = [.int .i64 (IntKind.wrap .i64 (1 + x9)), .int .i64 ((s16.n : Nat) : Int)] ∧ I24 n29 ((IntKind.wrap .i64 (x27 + 1))) w40))))))
 (∃ n23, n23 < n19 ∧ ([.slice s11.a s11.n s11.c, .slice s3.a s3.n s3.c] : List Value) = [.slice s11.a s11.n s11.c, .slice s3.a s3.n s3.c] ∧ ([.int .i64 (IntKind.wrap .i64 (1 + x9)), .int .i64 ((s16.n : Nat) : Int)] : List Value) = [.int .i64 (IntKind.wrap .i64 (1 + x9)), .int .i64 ((s16.n : Nat) : Int)] ∧ I18 n23 ((IntKind.wrap .i64 (x21 + 1))) w28))
 (Calls Tryd.prog n_law06_lives #[] w22 (fun e w42 => ∃ (b43 : Bool), e = .returned (.bool b43) ∧ w42.heap[w10.heap.size]? = w22.heap[w10.heap.size]? ∧ w42.heap[w15.heap.size]? = w22.heap[w15.heap.size]? ∧ 
 R (.returned (.bool b43)) w42)))))))))))
theorem law06_CodeReads.vc {a0 a1 a2 a3 a4 w} {R : Ending → World → Prop} (h : law06_CodeReads.pre a0 a1 a2 a3 a4 w R) : Calls Tryd.prog n_law06_CodeReads #[.slice a0.a a0.n a0.c, .slice a1.a a1.n a1.c, .int .i64 a2, .int .u8 a3, .int .i64 a4] w R :=
  calls_of_eq (an := ⟨[(12, ⟨[(16, .int .i64)], [], []⟩), (9, ⟨[(15, .int .i64)], [], []⟩)], [], []⟩) (args := [.slice a0.a a0.n a0.c, .slice a1.a a1.n a1.c, .int .i64 a2, .int .u8 a3, .int .i64 a4]) Tryd.noNG Tryd.mixed Tryd.func14 h (by kernel_rfl)

/- breccia/breccialaw06.CodeAgain  -/
def law06_CodeAgain.pre (a0 : Sl) (a1 : Int) (w : World) (R : Ending → World → Prop) : Prop :=
 Calls Tryd.prog n_ref06_Few #[.slice a0.a a0.n a0.c, .int .i64 60] w (fun e w0 => ∃ (s1 : Sl), e = .returned (.slice s1.a s1.n s1.c) ∧ 
 Calls Tryd.prog n_ref01_Around #[.int .i64 a1, .int .i64 400] w0 (fun e w2 => ∃ (x3 : Int), e = .returned (.int .i64 x3) ∧ 
 Calls Tryd.prog n_code_Read #[.slice s1.a s1.n s1.c, .int .i64 (IntKind.wrap .i64 (1 + x3))] w2 (fun e w4 => ∃ (s5 : Sl) (x6 : Int), e = .returned (.tuple #[.slice s5.a s5.n s5.c, .int .i64 x6]) ∧ 
 Br ((x6 : Int) != 0)
 (Br ((((s5.n : Nat) : Int) : Int) == 0)
 (Calls Tryd.prog n_law06_lives #[] w4 (fun e w7 => ∃ (b8 : Bool), e = .returned (.bool b8) ∧ 
 R (.returned (.bool b8)) w7))
 (R (.returned (.bool false)) w4))
 (Calls Tryd.prog n_code_Write #[.slice s5.a s5.n s5.c] w4 (fun e w9 => ∃ (s10 : Sl) (x11 : Int), e = .returned (.tuple #[.slice s10.a s10.n s10.c, .int .i64 x11]) ∧ 
 Br ((x11 : Int) == 0)
 (Calls Tryd.prog n_ref06_Same #[.slice s1.a s1.n s1.c, .slice s10.a s10.n s10.c] w9 (fun e w12 => ∃ (b13 : Bool), e = .returned (.bool b13) ∧ 
 Br b13
 (Calls Tryd.prog n_ref05_May #[.slice s5.a s5.n s5.c, .int .i64 (IntKind.wrap .i64 (1 + x3))] w12 (fun e w14 => ∃ (b15 : Bool), e = .returned (.bool b15) ∧ 
 Br b15
 (Calls Tryd.prog n_law06_lives #[] w14 (fun e w16 => ∃ (b17 : Bool), e = .returned (.bool b17) ∧ 
 R (.returned (.bool b17)) w16))
 (R (.returned (.bool false)) w14)))
 (R (.returned (.bool false)) w12)))
 (R (.returned (.bool false)) w9))))))
theorem law06_CodeAgain.vc {a0 a1 w} {R : Ending → World → Prop} (h : law06_CodeAgain.pre a0 a1 w R) : Calls Tryd.prog n_law06_CodeAgain #[.slice a0.a a0.n a0.c, .int .i64 a1] w R :=
  calls_of_eq (an := ⟨[], [], []⟩) (args := [.slice a0.a a0.n a0.c, .int .i64 a1]) Tryd.noNG Tryd.mixed Tryd.func15 h (by kernel_rfl)

/- breccia/brecciaref05.Good  -/
def ref05_Good.pre (a0 : Sl) (w : World) (R : Ending → World → Prop) : Prop :=
 ∀ w0 : World, w0 = w.alloc (.cells #[] 3) →
 ∃ I1 : Nat → Int → Sl → World → Prop,
 (∃ n2, I1 n2 (0) ⟨(some ⟨w.heap.size, 0, none⟩), 0, 0⟩ w0) ∧
 ∀ (n2 : Nat) (us3 : Nat → Value) (x4 : Int) (s5 : Sl) (w6 : World), I1 n2 x4 s5 w6 →
 Br (decide ((x4 : Int) < ((a0.n : Nat) : Int)))
 (Br (decide ((x4 : Int) < 12))
 (InB a0.a x4 a0.n ∧ AndL (nnC (padd a0.a ((x4 : Int).toNat * 2))) (∃ (x8 : Int), ld w6 (padd (padd a0.a ((x4 : Int).toNat * 2)) 0) = some (.int .i64 x8) ∧
 Calls Tryd.prog n_ref01_Around #[.int .i64 x8, .int .i64 40] w6 (fun e w9 => ∃ (x10 : Int), e = .returned (.int .i64 x10) ∧ 
 ∃ I11 : Nat → Int → Sl → World → Prop,
 (∃ n12, I11 n12 (0) ⟨s5.a, s5.n, s5.c⟩ w9) ∧
 ∀ (n12 : Nat) (us13 : Nat → Value) (x14 : Int) (s15 : Sl) (w16 : World), I11 n12 x14 s15 w16 →
 Br (decide ((x14 : Int) < (IntKind.wrap .i64 (1 + x10))))
 (InB a0.a x4 a0.n ∧ AndL (nnC (padd a0.a ((x4 : Int).toNat * 2))) (∃ (x18 : Int), ld w16 (padd (padd a0.a ((x4 : Int).toNat * 2)) 1) = some (.int .i64 x18) ∧
 Calls Tryd.prog n_ref04_Good #[.int .i64 x18] w16 (fun e w19 => ∃ (x20 : Int), e = .returned (.int .i64 x20) ∧ 
 ∀ w21 : World, w21 = w19.alloc (.cells #[.int .i64 x20] 3) →
 AppPre 8 1 w21 ⟨s15.a, s15.n, s15.c⟩ 1 [.int .i64 x20] ∧ ∀ (s22 : Sl) (w23 : World), AppRes 3 1 w21 ⟨s15.a, s15.n, s15.c⟩ 1 [.int .i64 x20] s22 w23 → w23.heap[w19.heap.size]? = w21.heap[w19.heap.size]? ∧ 
 ∃ n17, n17 < n12 ∧ I11 n17 ((IntKind.wrap .i64 (x14 + 1))) ⟨s22.a, s22.n, s22.c⟩ w23)))
 (∃ n7, n7 < n2 ∧ I1 n7 ((IntKind.wrap .i64 (x4 + 1))) ⟨s15.a, s15.n, s15.c⟩ w16))))
 (Br ((((s5.n : Nat) : Int) : Int) == 0)
 (∀ w24 : World, w24 = w6.alloc (.cells #[.int .i64 0] 3) →
 AppPre 8 1 w24 ⟨s5.a, s5.n, s5.c⟩ 1 [.int .i64 0] ∧ ∀ (s25 : Sl) (w26 : World), AppRes 3 1 w24 ⟨s5.a, s5.n, s5.c⟩ 1 [.int .i64 0] s25 w26 → w26.heap[w6.heap.size]? = w24.heap[w6.heap.size]? ∧ 
 Calls Tryd.prog n_ref05_Of #[.slice s25.a s25.n s25.c] w26 (fun e w27 => ∃ (s28 : Sl), e = .returned (.slice s28.a s28.n s28.c) ∧ w27.heap[w6.heap.size]? = w26.heap[w6.heap.size]? ∧ 
 R (.returned (.slice s28.a s28.n s28.c)) w27))
 (Calls Tryd.prog n_ref05_Of #[.slice s5.a s5.n s5.c] w6 (fun e w29 => ∃ (s30 : Sl), e = .returned (.slice s30.a s30.n s30.c) ∧ 
 R (.returned (.slice s30.a s30.n s30.c)) w29))))
 (Br ((((s5.n : Nat) : Int) : Int) == 0)
 (∀ w31 : World, w31 = w6.alloc (.cells #[.int .i64 0] 3) →
 AppPre 8 1 w31 ⟨s5.a, s5.n, s5.c⟩ 1 [.int .i64 0] ∧ ∀ (s32 : Sl) (w33 : World), AppRes 3 1 w31 ⟨s5.a, s5.n, s5.c⟩ 1 [.int .i64 0] s32 w33 → w33.heap[w6.heap.size]? = w31.heap[w6.heap.size]? ∧ 
 Calls Tryd.prog n_ref05_Of #[.slice s32.a s32.n s32.c] w33 (fun e w34 => ∃ (s35 : Sl), e = .returned (.slice s35.a s35.n s35.c) ∧ w34.heap[w6.heap.size]? = w33.heap[w6.heap.size]? ∧ 
 R (.returned (.slice s35.a s35.n s35.c)) w34))
 (Calls Tryd.prog n_ref05_Of #[.slice s5.a s5.n s5.c] w6 (fun e w36 => ∃ (s37 : Sl), e = .returned (.slice s37.a s37.n s37.c) ∧ 
 R (.returned (.slice s37.a s37.n s37.c)) w36)))
theorem ref05_Good.vc {a0 w} {R : Ending → World → Prop} (h : ref05_Good.pre a0 w R) : Calls Tryd.prog n_ref05_Good #[.slice a0.a a0.n a0.c] w R :=
  calls_of_eq (an := ⟨[(7, ⟨[(6, .int .i64), (3, .slice)], [], []⟩), (3, ⟨[(4, .int .i64), (3, .slice)], [], [0]⟩)], [], []⟩) (args := [.slice a0.a a0.n a0.c]) Tryd.noNG Tryd.mixed Tryd.func16 h (by kernel_rfl)

/- breccia/code.Write  -/
def code_Write.pre (a0 : Sl) (w : World) (R : Ending → World → Prop) : Prop :=
 ∃ I0 : Nat → Int → Int → World → Prop,
 (∃ n1, I0 n1 (0) (1048576) w) ∧
 ∀ (n1 : Nat) (us2 : Nat → Value) (x3 : Int) (x4 : Int) (w5 : World), I0 n1 x3 x4 w5 →
 Br (decide ((x3 : Int) < ((a0.n : Nat) : Int)))
 (InB a0.a x3 a0.n ∧ ∃ (x7 : Int) (x8 : Int), LoadL w5 (padd a0.a ((x3 : Int).toNat * 2)) 0 [.int .i64 x7, .int .i64 x8] ∧
 ∀ w9 : World, w9 = w5.alloc (.cells #[.int .i64 0, .int .i64 0] 35) →
 ∀ w10 : World, w10 = w9.setRow w5.heap.size #[.int .i64 x7, .int .i64 x8] →
 Br (decide ((x7 : Int) < 1))
 (R (.returned (.tuple #[.slice none 0 0, .int .i64 1])) w10)
 (Br (decide (((IntKind.wrap .i64 (x4 - x7)) : Int) < 0))
 (R (.returned (.tuple #[.slice none 0 0, .int .i64 1])) w10)
 (∃ n6, n6 < n1 ∧ I0 n6 ((IntKind.wrap .i64 (x3 + 1))) ((IntKind.wrap .i64 (x4 - x7))) w10)))
 (Calls Tryd.prog n_runs_Len #[.slice a0.a a0.n a0.c] w5 (fun e w11 => ∃ (x12 : Int), e = .returned (.int .i64 x12) ∧ 
 Calls Tryd.prog n_runs_May #[.slice a0.a a0.n a0.c, .int .i64 x12] w11 (fun e w13 => ∃ (b14 : Bool), e = .returned (.bool b14) ∧ 
 Br (!b14)
 (R (.returned (.tuple #[.slice none 0 0, .int .i64 1])) w13)
 (∃ I15 : Nat → Int → Sl → World → Prop,
 (∃ n16, I15 n16 (0) ⟨none, 0, 0⟩ w13) ∧
 ∀ (n16 : Nat) (us17 : Nat → Value) (x18 : Int) (s19 : Sl) (w20 : World), I15 n16 x18 s19 w20 →
 Br (decide ((x18 : Int) < ((a0.n : Nat) : Int)))
 (InB a0.a x18 a0.n ∧ ∃ (x22 : Int) (x23 : Int), LoadL w20 (padd a0.a ((x18 : Int).toNat * 2)) 0 [.int .i64 x22, .int .i64 x23] ∧
 ∀ w24 : World, w24 = w20.alloc (.cells #[.int .i64 0, .int .i64 0] 35) →
 ∀ w25 : World, w25 = w24.setRow w20.heap.size #[.int .i64 x22, .int .i64 x23] →
 ∀ w26 : World, w26 = w25.drew.alloc (.cells #[.int .u8 (IntKind.wrap .u8 x23)] 5) →
 AppPre 1 1 w26 ⟨s19.a, s19.n, s19.c⟩ 1 [.int .u8 (IntKind.wrap .u8 x23)] ∧ ∀ (s27 : Sl) (w28 : World), AppRes 5 1 w26 ⟨s19.a, s19.n, s19.c⟩ 1 [.int .u8 (IntKind.wrap .u8 x23)] s27 w28 → w28.heap[w20.heap.size]? = w26.heap[w20.heap.size]? ∧ w28.heap[w25.drew.heap.size]? = w26.heap[w25.drew.heap.size]? ∧ 
 LoadL w28 (some ⟨w20.heap.size, 0, none⟩) 0 [.int .i64 x22] ∧ LoadL w28 (some ⟨w20.heap.size, 1, none⟩) 0 [.int .i64 x23] ∧ Calls Tryd.prog n_code_Number #[.int .i64 x22] w28 (fun e w29 => ∃ (s30 : Sl), e = .returned (.slice s30.a s30.n s30.c) ∧ w29.heap[w20.heap.size]? = w28.heap[w20.heap.size]? ∧ w29.heap[w25.drew.heap.size]? = w28.heap[w25.drew.heap.size]? ∧ 
 LoadL w29 (some ⟨w20.heap.size, 1, none⟩) 0 [.int .i64 x23] ∧ ∃ l31 : List Value, Rd w29 s30.a l31 ∧ AppPre 1 1 w29 ⟨s27.a, s27.n, s27.c⟩ s30.n l31 ∧ ∀ (s32 : Sl) (w33 : World), AppRes 5 1 w29 ⟨s27.a, s27.n, s27.c⟩ s30.n l31 s32 w33 → w33.heap[w20.heap.size]? = w29.heap[w20.heap.size]? ∧ w33.heap[w25.drew.heap.size]? = w29.heap[w25.drew.heap.size]? ∧ 
 LoadL w33 (some ⟨w20.heap.size, 1, none⟩) 0 [.int .i64 x23] ∧ ∃ n21, n21 < n16 ∧ I15 n21 ((IntKind.wrap .i64 (x18 + 1))) ⟨s32.a, s32.n, s32.c⟩ w33))
 (R (.returned (.tuple #[.slice s19.a s19.n s19.c, .int .i64 0])) w20)))))
theorem code_Write.vc {a0 w} {R : Ending → World → Prop} (h : code_Write.pre a0 w R) : Calls Tryd.prog n_code_Write #[.slice a0.a a0.n a0.c] w R :=
  calls_of_eq (an := ⟨[(13, ⟨[(35, .int .i64), (7, .slice)], [], []⟩), (3, ⟨[(12, .int .i64), (4, .int .i64)], [], []⟩)], [], []⟩) (args := [.slice a0.a a0.n a0.c]) Tryd.noNG Tryd.mixed Tryd.func17 h (by kernel_rfl)

/- breccia/brecciaref06.Write  -/
def ref06_Write.pre (a0 : Sl) (w : World) (R : Ending → World → Prop) : Prop :=
 ∃ I0 : Nat → Int → Int → World → Prop,
 (∃ n1, I0 n1 (0) (0) w) ∧
 ∀ (n1 : Nat) (us2 : Nat → Value) (x3 : Int) (x4 : Int) (w5 : World), I0 n1 x3 x4 w5 →
 Br (decide ((x3 : Int) < ((a0.n : Nat) : Int)))
 (InB a0.a x3 a0.n ∧ AndL (nnC (padd a0.a ((x3 : Int).toNat * 2))) (∃ (x7 : Int), ld w5 (padd (padd a0.a ((x3 : Int).toNat * 2)) 0) = some (.int .i64 x7) ∧
 Br (decide ((x7 : Int) < 1))
 (R (.returned (.tuple #[.slice none 0 0, .int .i64 1])) w5)
 (InB a0.a x3 a0.n ∧ AndL (nnC (padd a0.a ((x3 : Int).toNat * 2))) (∃ (x8 : Int), ld w5 (padd (padd a0.a ((x3 : Int).toNat * 2)) 0) = some (.int .i64 x8) ∧
 Br (decide ((x8 : Int) > (IntKind.wrap .i64 (1048576 - x4))))
 (R (.returned (.tuple #[.slice none 0 0, .int .i64 1])) w5)
 (InB a0.a x3 a0.n ∧ AndL (nnC (padd a0.a ((x3 : Int).toNat * 2))) (∃ (x9 : Int), ld w5 (padd (padd a0.a ((x3 : Int).toNat * 2)) 0) = some (.int .i64 x9) ∧
 ∃ n6, n6 < n1 ∧ I0 n6 ((IntKind.wrap .i64 (x3 + 1))) ((IntKind.wrap .i64 (x4 + x9))) w5))))))
 (Calls Tryd.prog n_ref05_May #[.slice a0.a a0.n a0.c, .int .i64 x4] w5 (fun e w10 => ∃ (b11 : Bool), e = .returned (.bool b11) ∧ 
 Br (!b11)
 (R (.returned (.tuple #[.slice none 0 0, .int .i64 1])) w10)
 (∃ I12 : Nat → Int → Sl → World → Prop,
 (∃ n13, I12 n13 (0) ⟨none, 0, 0⟩ w10) ∧
 ∀ (n13 : Nat) (us14 : Nat → Value) (x15 : Int) (s16 : Sl) (w17 : World), I12 n13 x15 s16 w17 →
 Br (decide ((x15 : Int) < ((a0.n : Nat) : Int)))
 (InB a0.a x15 a0.n ∧ AndL (nnC (padd a0.a ((x15 : Int).toNat * 2))) (∃ (x19 : Int), ld w17 (padd (padd a0.a ((x15 : Int).toNat * 2)) 1) = some (.int .i64 x19) ∧
 ∀ w20 : World, w20 = w17.alloc (.cells #[.int .u8 (IntKind.wrap .u8 x19)] 5) →
 AppPre 1 1 w20 ⟨s16.a, s16.n, s16.c⟩ 1 [.int .u8 (IntKind.wrap .u8 x19)] ∧ ∀ (s21 : Sl) (w22 : World), AppRes 5 1 w20 ⟨s16.a, s16.n, s16.c⟩ 1 [.int .u8 (IntKind.wrap .u8 x19)] s21 w22 → w22.heap[w17.heap.size]? = w20.heap[w17.heap.size]? ∧ 
 InB a0.a x15 a0.n ∧ AndL (nnC (padd a0.a ((x15 : Int).toNat * 2))) (∃ (x23 : Int), ld w22 (padd (padd a0.a ((x15 : Int).toNat * 2)) 0) = some (.int .i64 x23) ∧
 Calls Tryd.prog n_ref06_Number #[.int .i64 x23] w22 (fun e w24 => ∃ (s25 : Sl), e = .returned (.slice s25.a s25.n s25.c) ∧ w24.heap[w17.heap.size]? = w22.heap[w17.heap.size]? ∧ 
 ∃ l26 : List Value, Rd w24 s25.a l26 ∧ AppPre 1 1 w24 ⟨s21.a, s21.n, s21.c⟩ s25.n l26 ∧ ∀ (s27 : Sl) (w28 : World), AppRes 5 1 w24 ⟨s21.a, s21.n, s21.c⟩ s25.n l26 s27 w28 → w28.heap[w17.heap.size]? = w24.heap[w17.heap.size]? ∧ 
 ∃ n18, n18 < n13 ∧ I12 n18 ((IntKind.wrap .i64 (x15 + 1))) ⟨s27.a, s27.n, s27.c⟩ w28))))
 (R (.returned (.tuple #[.slice s16.a s16.n s16.c, .int .i64 0])) w17))))
theorem ref06_Write.vc {a0 w} {R : Ending → World → Prop} (h : ref06_Write.pre a0 w R) : Calls Tryd.prog n_ref06_Write #[.slice a0.a a0.n a0.c] w R :=
  calls_of_eq (an := ⟨[(13, ⟨[(8, .int .i64), (7, .slice)], [], []⟩), (3, ⟨[(5, .int .i64), (4, .int .i64)], [], []⟩)], [], []⟩) (args := [.slice a0.a a0.n a0.c]) Tryd.noNG Tryd.mixed Tryd.func18 h (by kernel_rfl)

/- breccia/brecciaref06.Same  -/
def ref06_Same.pre (a0 : Sl) (a1 : Sl) (w : World) (R : Ending → World → Prop) : Prop :=
 ∃ l0 : List Int, l0.length = a0.n ∧ LoadL w a0.a 0 (l0.map (Value.int .u8)) ∧
 ∃ l1 : List Int, l1.length = a1.n ∧ LoadL w a1.a 0 (l1.map (Value.int .u8)) ∧
 R (.returned (.bool (strEq (strOfNums l0) (strOfNums l1)))) w
theorem ref06_Same.vc {a0 a1 w} {R : Ending → World → Prop} (h : ref06_Same.pre a0 a1 w R) : Calls Tryd.prog n_ref06_Same #[.slice a0.a a0.n a0.c, .slice a1.a a1.n a1.c] w R :=
  calls_of_eq (an := ⟨[], [], []⟩) (args := [.slice a0.a a0.n a0.c, .slice a1.a a1.n a1.c]) Tryd.noNG Tryd.mixed Tryd.func19 h (by kernel_rfl)

/- breccia/breccialaw06.lives  -/
def law06_lives.pre  (w : World) (R : Ending → World → Prop) : Prop :=
 ∀ w0 : World, w0 = w.alloc (.cells #[.int .i64 300, .int .i64 1] 35) →
 Calls Tryd.prog n_code_Write #[.slice (some ⟨w.heap.size, 0, none⟩) 1 1] w0 (fun e w1 => ∃ (s2 : Sl) (x3 : Int), e = .returned (.tuple #[.slice s2.a s2.n s2.c, .int .i64 x3]) ∧ 
 Br ((x3 : Int) == 0)
 (Br ((((s2.n : Nat) : Int) : Int) == 3)
 (∀ w4 : World, w4 = w1.alloc (.cells #[.int .u8 1, .int .u8 172, .int .u8 2] 5) →
 Calls Tryd.prog n_ref06_Same #[.slice s2.a s2.n s2.c, .slice (some ⟨w1.heap.size, 0, none⟩) 3 3] w4 (fun e w5 => ∃ (b6 : Bool), e = .returned (.bool b6) ∧ 
 R (.returned (.bool b6)) w5))
 (R (.returned (.bool false)) w1))
 (R (.returned (.bool false)) w1))
theorem law06_lives.vc {w} {R : Ending → World → Prop} (h : law06_lives.pre  w R) : Calls Tryd.prog n_law06_lives #[] w R :=
  calls_of_eq (an := ⟨[], [], []⟩) (args := []) Tryd.noNG Tryd.mixed Tryd.func20 h (by kernel_rfl)

/- breccia/brecciaref01.Around  -/
def ref01_Around.pre (a0 : Int) (a1 : Int) (w : World) (R : Ending → World → Prop) : Prop :=
 Br (decide ((a0 : Int) < 0))
 (AndL (nzC a1) (R (.returned (.int .i64 (Int.tmod (IntKind.wrap .i64 (0 - (IntKind.wrap .i64 (a0 + 1)))) a1))) w))
 (AndL (nzC a1) (R (.returned (.int .i64 (Int.tmod a0 a1))) w))
theorem ref01_Around.vc {a0 a1 w} {R : Ending → World → Prop} (h : ref01_Around.pre a0 a1 w R) : Calls Tryd.prog n_ref01_Around #[.int .i64 a0, .int .i64 a1] w R :=
  calls_of_eq (an := ⟨[], [], []⟩) (args := [.int .i64 a0, .int .i64 a1]) Tryd.noNG Tryd.mixed Tryd.func21 h (by kernel_rfl)

/- breccia/brecciaref06.Few  -/
def ref06_Few.pre (a0 : Sl) (a1 : Int) (w : World) (R : Ending → World → Prop) : Prop :=
 Br (decide ((((a0.n : Nat) : Int) : Int) > a1))
 ((0 : Int) ≤ a1 ∧ a1 ≤ ((a0.c : Nat) : Int) ∧ R (.returned (.slice (slBase a0.a (0) (a0.c) 1) ((a1 : Int).toNat - 0) (a0.c - 0))) w)
 (R (.returned (.slice a0.a a0.n a0.c)) w)
theorem ref06_Few.vc {a0 a1 w} {R : Ending → World → Prop} (h : ref06_Few.pre a0 a1 w R) : Calls Tryd.prog n_ref06_Few #[.slice a0.a a0.n a0.c, .int .i64 a1] w R :=
  calls_of_eq (an := ⟨[], [], []⟩) (args := [.slice a0.a a0.n a0.c, .int .i64 a1]) Tryd.noNG Tryd.mixed Tryd.func22 h (by kernel_rfl)

/- breccia/code.Number  -/
def code_Number.pre (a0 : Int) (w : World) (R : Ending → World → Prop) : Prop :=
 Br (decide ((a0 : Int) < 0))
 (R (.returned (.slice none 0 0)) w)
 (Br (decide ((a0 : Int) > 1048576))
 (R (.returned (.slice none 0 0)) w)
 (∃ I0 : Nat → Int → Sl → World → Prop,
 (∃ n1, I0 n1 (a0) ⟨none, 0, 0⟩ w) ∧
 ∀ (n1 : Nat) (us2 : Nat → Value) (x3 : Int) (s4 : Sl) (w5 : World), I0 n1 x3 s4 w5 →
 Br (decide ((x3 : Int) ≥ 128))
 (∀ w7 : World, w7 = w5.alloc (.cells #[.int .u8 (bOr .u8 (IntKind.wrap .u8 x3) 128)] 5) →
 AppPre 1 1 w7 ⟨s4.a, s4.n, s4.c⟩ 1 [.int .u8 (bOr .u8 (IntKind.wrap .u8 x3) 128)] ∧ ∀ (s8 : Sl) (w9 : World), AppRes 5 1 w7 ⟨s4.a, s4.n, s4.c⟩ 1 [.int .u8 (bOr .u8 (IntKind.wrap .u8 x3) 128)] s8 w9 → w9.heap[w5.heap.size]? = w7.heap[w5.heap.size]? ∧ 
 ∃ n6, n6 < n1 ∧ I0 n6 (((x3 : Int).fdiv (2 ^ (min (7 : Int).toNat 64)))) ⟨s8.a, s8.n, s8.c⟩ w9)
 (∀ w10 : World, w10 = w5.alloc (.cells #[.int .u8 (IntKind.wrap .u8 x3)] 5) →
 AppPre 1 1 w10 ⟨s4.a, s4.n, s4.c⟩ 1 [.int .u8 (IntKind.wrap .u8 x3)] ∧ ∀ (s11 : Sl) (w12 : World), AppRes 5 1 w10 ⟨s4.a, s4.n, s4.c⟩ 1 [.int .u8 (IntKind.wrap .u8 x3)] s11 w12 → w12.heap[w5.heap.size]? = w10.heap[w5.heap.size]? ∧ 
 R (.returned (.slice s11.a s11.n s11.c)) w12)))
theorem code_Number.vc {a0 w} {R : Ending → World → Prop} (h : code_Number.pre a0 w R) : Calls Tryd.prog n_code_Number #[.int .i64 a0] w R :=
  calls_of_eq (an := ⟨[(4, ⟨[(0, .int .i64), (3, .slice)], [], []⟩)], [], []⟩) (args := [.int .i64 a0]) Tryd.noNG Tryd.mixed Tryd.func23 h (by kernel_rfl)

/- breccia/code.Digits  -/
def code_Digits.pre (a0 : Sl) (w : World) (R : Ending → World → Prop) : Prop :=
 (0 : Int) ≤ (if 3 < ((a0.n : Nat) : Int) then 3 else ((a0.n : Nat) : Int)) ∧ (if 3 < ((a0.n : Nat) : Int) then 3 else ((a0.n : Nat) : Int)) ≤ ((a0.c : Nat) : Int) ∧ ∃ I0 : Nat → Int → Int → World → Prop,
 (∃ n1, I0 n1 (0) (0) w) ∧
 ∀ (n1 : Nat) (us2 : Nat → Value) (x3 : Int) (x4 : Int) (w5 : World), I0 n1 x3 x4 w5 →
 Br (decide ((x3 : Int) < (((((if 3 < ((a0.n : Nat) : Int) then 3 else ((a0.n : Nat) : Int)) : Int).toNat - 0) : Nat) : Int)))
 (InB (slBase a0.a (0) (a0.c) 1) x3 (((if 3 < ((a0.n : Nat) : Int) then 3 else ((a0.n : Nat) : Int)) : Int).toNat - 0) ∧ ∃ (x7 : Int), ld w5 (padd (slBase a0.a (0) (a0.c) 1) ((x3 : Int).toNat * 1)) = some (.int .u8 x7) ∧
 AndL (ngC (IntKind.wrap .i64 (7 * x3))) (Br (decide ((x7 : Int) ≥ 128))
 (∃ n6, n6 < n1 ∧ I0 n6 ((IntKind.wrap .i64 (x3 + 1))) ((bOr .i64 x4 (IntKind.wrap .i64 ((IntKind.wrap .i64 (bAndNot .u8 x7 128)) * 2 ^ (min ((IntKind.wrap .i64 (7 * x3)) : Int).toNat 64))))) w5)
 (Br ((x7 : Int) == 0)
 (Br (decide ((x3 : Int) > 0))
 (R (.returned (.tuple #[.int .i64 0, .int .i64 0, .int .i64 2])) w5)
 (Br (decide (((bOr .i64 x4 (IntKind.wrap .i64 ((IntKind.wrap .i64 (bAndNot .u8 x7 128)) * 2 ^ (min ((IntKind.wrap .i64 (7 * x3)) : Int).toNat 64)))) : Int) > 1048576))
 (R (.returned (.tuple #[.int .i64 0, .int .i64 0, .int .i64 2])) w5)
 (R (.returned (.tuple #[.int .i64 (bOr .i64 x4 (IntKind.wrap .i64 ((IntKind.wrap .i64 (bAndNot .u8 x7 128)) * 2 ^ (min ((IntKind.wrap .i64 (7 * x3)) : Int).toNat 64)))), .int .i64 (IntKind.wrap .i64 (x3 + 1)), .int .i64 0])) w5)))
 (Br (decide (((bOr .i64 x4 (IntKind.wrap .i64 ((IntKind.wrap .i64 (bAndNot .u8 x7 128)) * 2 ^ (min ((IntKind.wrap .i64 (7 * x3)) : Int).toNat 64)))) : Int) > 1048576))
 (R (.returned (.tuple #[.int .i64 0, .int .i64 0, .int .i64 2])) w5)
 (R (.returned (.tuple #[.int .i64 (bOr .i64 x4 (IntKind.wrap .i64 ((IntKind.wrap .i64 (bAndNot .u8 x7 128)) * 2 ^ (min ((IntKind.wrap .i64 (7 * x3)) : Int).toNat 64)))), .int .i64 (IntKind.wrap .i64 (x3 + 1)), .int .i64 0])) w5)))))
 (Br (decide ((((a0.n : Nat) : Int) : Int) < 3))
 (R (.returned (.tuple #[.int .i64 0, .int .i64 0, .int .i64 3])) w5)
 (R (.returned (.tuple #[.int .i64 0, .int .i64 0, .int .i64 2])) w5))
theorem code_Digits.vc {a0 w} {R : Ending → World → Prop} (h : code_Digits.pre a0 w R) : Calls Tryd.prog n_code_Digits #[.slice a0.a a0.n a0.c] w R :=
  calls_of_eq (an := ⟨[(3, ⟨[(14, .int .i64), (5, .int .i64)], [], []⟩)], [], []⟩) (args := [.slice a0.a a0.n a0.c]) Tryd.noNG Tryd.mixed Tryd.func24 h (by kernel_rfl)

/- breccia/brecciaref06.Digits  -/
def ref06_Digits.pre (a0 : Sl) (w : World) (R : Ending → World → Prop) : Prop :=
 ∃ I0 : Nat → Int → Int → Int → World → Prop,
 (∃ n1, I0 n1 (0) (0) (1) w) ∧
 ∀ (n1 : Nat) (us2 : Nat → Value) (x3 : Int) (x4 : Int) (x5 : Int) (w6 : World), I0 n1 x3 x4 x5 w6 →
 Br (decide ((x3 : Int) < 3))
 (Br (decide ((x3 : Int) ≥ ((a0.n : Nat) : Int)))
 (R (.returned (.tuple #[.int .i64 0, .int .i64 0, .int .i64 3])) w6)
 (InB a0.a x3 a0.n ∧ ∃ (x8 : Int), ld w6 (padd a0.a ((x3 : Int).toNat * 1)) = some (.int .u8 x8) ∧
 Br (decide (((IntKind.wrap .i64 x8) : Int) ≥ 128))
 (∃ n7, n7 < n1 ∧ I0 n7 ((IntKind.wrap .i64 (x3 + 1))) ((IntKind.wrap .i64 (x4 + (IntKind.wrap .i64 ((Int.tmod (IntKind.wrap .i64 x8) 128) * x5))))) ((IntKind.wrap .i64 (x5 * 128))) w6)
 (Br (((IntKind.wrap .i64 x8) : Int) == 0)
 (Br (decide ((x3 : Int) > 0))
 (R (.returned (.tuple #[.int .i64 0, .int .i64 0, .int .i64 2])) w6)
 (Br (decide (((IntKind.wrap .i64 (x4 + (IntKind.wrap .i64 ((Int.tmod (IntKind.wrap .i64 x8) 128) * x5)))) : Int) > 1048576))
 (R (.returned (.tuple #[.int .i64 0, .int .i64 0, .int .i64 2])) w6)
 (R (.returned (.tuple #[.int .i64 (IntKind.wrap .i64 (x4 + (IntKind.wrap .i64 ((Int.tmod (IntKind.wrap .i64 x8) 128) * x5)))), .int .i64 (IntKind.wrap .i64 (x3 + 1)), .int .i64 0])) w6)))
 (Br (decide (((IntKind.wrap .i64 (x4 + (IntKind.wrap .i64 ((Int.tmod (IntKind.wrap .i64 x8) 128) * x5)))) : Int) > 1048576))
 (R (.returned (.tuple #[.int .i64 0, .int .i64 0, .int .i64 2])) w6)
 (R (.returned (.tuple #[.int .i64 (IntKind.wrap .i64 (x4 + (IntKind.wrap .i64 ((Int.tmod (IntKind.wrap .i64 x8) 128) * x5)))), .int .i64 (IntKind.wrap .i64 (x3 + 1)), .int .i64 0])) w6)))))
 (R (.returned (.tuple #[.int .i64 0, .int .i64 0, .int .i64 2])) w6)
theorem ref06_Digits.vc {a0 w} {R : Ending → World → Prop} (h : ref06_Digits.pre a0 w R) : Calls Tryd.prog n_ref06_Digits #[.slice a0.a a0.n a0.c] w R :=
  calls_of_eq (an := ⟨[(4, ⟨[(7, .int .i64), (5, .int .i64), (6, .int .i64)], [], []⟩)], [], []⟩) (args := [.slice a0.a a0.n a0.c]) Tryd.noNG Tryd.mixed Tryd.func25 h (by kernel_rfl)

/- breccia/brecciaref06.Number  -/
def ref06_Number.pre (a0 : Int) (w : World) (R : Ending → World → Prop) : Prop :=
 Br (decide ((a0 : Int) < 0))
 (R (.returned (.slice none 0 0)) w)
 (Br (decide ((a0 : Int) > 1048576))
 (R (.returned (.slice none 0 0)) w)
 (∃ I0 : Nat → Int → Int → Sl → World → Prop,
 (∃ n1, I0 n1 (0) (a0) ⟨none, 0, 0⟩ w) ∧
 ∀ (n1 : Nat) (us2 : Nat → Value) (x3 : Int) (x4 : Int) (s5 : Sl) (w6 : World), I0 n1 x3 x4 s5 w6 →
 Br (decide ((x3 : Int) < 3))
 (Br (decide ((x4 : Int) < 128))
 (∀ w8 : World, w8 = w6.alloc (.cells #[.int .u8 (IntKind.wrap .u8 x4)] 5) →
 AppPre 1 1 w8 ⟨s5.a, s5.n, s5.c⟩ 1 [.int .u8 (IntKind.wrap .u8 x4)] ∧ ∀ (s9 : Sl) (w10 : World), AppRes 5 1 w8 ⟨s5.a, s5.n, s5.c⟩ 1 [.int .u8 (IntKind.wrap .u8 x4)] s9 w10 → w10.heap[w6.heap.size]? = w8.heap[w6.heap.size]? ∧ 
 R (.returned (.slice s9.a s9.n s9.c)) w10)
 (∀ w11 : World, w11 = w6.alloc (.cells #[.int .u8 (IntKind.wrap .u8 (IntKind.wrap .i64 (128 + (Int.tmod x4 128))))] 5) →
 AppPre 1 1 w11 ⟨s5.a, s5.n, s5.c⟩ 1 [.int .u8 (IntKind.wrap .u8 (IntKind.wrap .i64 (128 + (Int.tmod x4 128))))] ∧ ∀ (s12 : Sl) (w13 : World), AppRes 5 1 w11 ⟨s5.a, s5.n, s5.c⟩ 1 [.int .u8 (IntKind.wrap .u8 (IntKind.wrap .i64 (128 + (Int.tmod x4 128))))] s12 w13 → w13.heap[w6.heap.size]? = w11.heap[w6.heap.size]? ∧ 
 ∃ n7, n7 < n1 ∧ I0 n7 ((IntKind.wrap .i64 (x3 + 1))) ((IntKind.wrap .i64 (Int.tdiv x4 128))) ⟨s12.a, s12.n, s12.c⟩ w13))
 (R (.returned (.slice s5.a s5.n s5.c)) w6)))
theorem ref06_Number.vc {a0 w} {R : Ending → World → Prop} (h : ref06_Number.pre a0 w R) : Calls Tryd.prog n_ref06_Number #[.int .i64 a0] w R :=
  calls_of_eq (an := ⟨[(5, ⟨[(4, .int .i64), (0, .int .i64), (3, .slice)], [], []⟩)], [], []⟩) (args := [.int .i64 a0]) Tryd.noNG Tryd.mixed Tryd.func26 h (by kernel_rfl)

/- breccia/brecciaref05.Cells  -/
def ref05_Cells.pre (a0 : Sl) (w : World) (R : Ending → World → Prop) : Prop :=
 ∃ I0 : Nat → Int → Sl → World → Prop,
 (∃ n1, I0 n1 (0) ⟨none, 0, 0⟩ w) ∧
 ∀ (n1 : Nat) (us2 : Nat → Value) (x3 : Int) (s4 : Sl) (w5 : World), I0 n1 x3 s4 w5 →
 Br (decide ((x3 : Int) < ((a0.n : Nat) : Int)))
 (∃ I7 : Nat → Int → Sl → World → Prop,
 (∃ n8, I7 n8 (0) ⟨s4.a, s4.n, s4.c⟩ w5) ∧
 ∀ (n8 : Nat) (us9 : Nat → Value) (x10 : Int) (s11 : Sl) (w12 : World), I7 n8 x10 s11 w12 →
 InB a0.a x3 a0.n ∧ AndL (nnC (padd a0.a ((x3 : Int).toNat * 2))) (∃ (x14 : Int), ld w12 (padd (padd a0.a ((x3 : Int).toNat * 2)) 0) = some (.int .i64 x14) ∧
 Br (decide ((x10 : Int) < x14))
 (InB a0.a x3 a0.n ∧ AndL (nnC (padd a0.a ((x3 : Int).toNat * 2))) (∃ (x15 : Int), ld w12 (padd (padd a0.a ((x3 : Int).toNat * 2)) 1) = some (.int .i64 x15) ∧
 ∀ w16 : World, w16 = w12.alloc (.cells #[.int .i64 x15] 3) →
 AppPre 8 1 w16 ⟨s11.a, s11.n, s11.c⟩ 1 [.int .i64 x15] ∧ ∀ (s17 : Sl) (w18 : World), AppRes 3 1 w16 ⟨s11.a, s11.n, s11.c⟩ 1 [.int .i64 x15] s17 w18 → w18.heap[w12.heap.size]? = w16.heap[w12.heap.size]? ∧ 
 ∃ n13, n13 < n8 ∧ I7 n13 ((IntKind.wrap .i64 (x10 + 1))) ⟨s17.a, s17.n, s17.c⟩ w18))
 (∃ n6, n6 < n1 ∧ I0 n6 ((IntKind.wrap .i64 (x3 + 1))) ⟨s11.a, s11.n, s11.c⟩ w12)))
 (R (.returned (.slice s4.a s4.n s4.c)) w5)
theorem ref05_Cells.vc {a0 w} {R : Ending → World → Prop} (h : ref05_Cells.pre a0 w R) : Calls Tryd.prog n_ref05_Cells #[.slice a0.a a0.n a0.c] w R :=
  calls_of_eq (an := ⟨[(6, ⟨[(5, .int .i64), (3, .slice)], [], []⟩), (3, ⟨[(4, .int .i64), (3, .slice)], [], []⟩)], [], []⟩) (args := [.slice a0.a a0.n a0.c]) Tryd.noNG Tryd.mixed Tryd.func27 h (by kernel_rfl)

/- breccia/brecciaref04.Good  -/
def ref04_Good.pre (a0 : Int) (w : World) (R : Ending → World → Prop) : Prop :=
 Calls Tryd.prog n_ref01_Around #[.int .i64 a0, .int .i64 14] w (fun e w0 => ∃ (x1 : Int), e = .returned (.int .i64 x1) ∧ 
 Br (decide ((x1 : Int) > 5))
 (R (.returned (.int .i64 (IntKind.wrap .i64 (x1 + 2)))) w0)
 (R (.returned (.int .i64 x1)) w0))
theorem ref04_Good.vc {a0 w} {R : Ending → World → Prop} (h : ref04_Good.pre a0 w R) : Calls Tryd.prog n_ref04_Good #[.int .i64 a0] w R :=
  calls_of_eq (an := ⟨[], [], []⟩) (args := [.int .i64 a0]) Tryd.noNG Tryd.mixed Tryd.func28 h (by kernel_rfl)

/- breccia/runs.Set  -/
def runs_Set.pre (a0 : Sl) (a1 : Int) (a2 : Int) (w : World) (R : Ending → World → Prop) : Prop :=
 Br (decide ((a1 : Int) < 0))
 (Calls Tryd.prog n_slices_Clone_Run #[.slice a0.a a0.n a0.c] w (fun e w0 => ∃ (s1 : Sl), e = .returned (.slice s1.a s1.n s1.c) ∧ 
 R (.returned (.slice s1.a s1.n s1.c)) w0))
 (Calls Tryd.prog n_runs_Len #[.slice a0.a a0.n a0.c] w (fun e w2 => ∃ (x3 : Int), e = .returned (.int .i64 x3) ∧ 
 Br (decide ((a1 : Int) ≥ x3))
 (Calls Tryd.prog n_slices_Clone_Run #[.slice a0.a a0.n a0.c] w2 (fun e w4 => ∃ (s5 : Sl), e = .returned (.slice s5.a s5.n s5.c) ∧ 
 R (.returned (.slice s5.a s5.n s5.c)) w4))
 (Calls Tryd.prog n_runs_Fill #[.slice a0.a a0.n a0.c, .int .i64 a1, .int .i64 (IntKind.wrap .i64 (a1 + 1)), .int .i64 a2] w2 (fun e w6 => ∃ (s7 : Sl), e = .returned (.slice s7.a s7.n s7.c) ∧ 
 R (.returned (.slice s7.a s7.n s7.c)) w6))))
theorem runs_Set.vc {a0 a1 a2 w} {R : Ending → World → Prop} (h : runs_Set.pre a0 a1 a2 w R) : Calls Tryd.prog n_runs_Set #[.slice a0.a a0.n a0.c, .int .i64 a1, .int .i64 a2] w R :=
  calls_of_eq (an := ⟨[], [], []⟩) (args := [.slice a0.a a0.n a0.c, .int .i64 a1, .int .i64 a2]) Tryd.noNG Tryd.mixed Tryd.func29 h (by kernel_rfl)

/- breccia/brecciaref05.Same  -/
def ref05_Same.pre (a0 : Sl) (a1 : Sl) (w : World) (R : Ending → World → Prop) : Prop :=
 Br ((((a0.n : Nat) : Int) : Int) != ((a1.n : Nat) : Int))
 (R (.returned (.bool false)) w)
 (∃ I0 : Nat → Int → World → Prop,
 (∃ n1, I0 n1 (0) w) ∧
 ∀ (n1 : Nat) (us2 : Nat → Value) (x3 : Int) (w4 : World), I0 n1 x3 w4 →
 Br (decide ((x3 : Int) < ((a0.n : Nat) : Int)))
 (InB a0.a x3 a0.n ∧ ∃ (x6 : Int) (x7 : Int), LoadL w4.drew (padd a0.a ((x3 : Int).toNat * 2)) 0 [.int .i64 x6, .int .i64 x7] ∧
 InB a1.a x3 a1.n ∧ ∃ (x8 : Int) (x9 : Int), LoadL w4.drew (padd a1.a ((x3 : Int).toNat * 2)) 0 [.int .i64 x8, .int .i64 x9] ∧
 Br (!(((x6 : Int) == x8) && ((x7 : Int) == x9)))
 (R (.returned (.bool false)) w4.drew)
 (∃ n5, n5 < n1 ∧ I0 n5 ((IntKind.wrap .i64 (x3 + 1))) w4.drew))
 (R (.returned (.bool true)) w4))
theorem ref05_Same.vc {a0 a1 w} {R : Ending → World → Prop} (h : ref05_Same.pre a0 a1 w R) : Calls Tryd.prog n_ref05_Same #[.slice a0.a a0.n a0.c, .slice a1.a a1.n a1.c] w R :=
  calls_of_eq (an := ⟨[(4, ⟨[(5, .int .i64)], [], []⟩)], [], []⟩) (args := [.slice a0.a a0.n a0.c, .slice a1.a a1.n a1.c]) Tryd.noNG Tryd.mixed Tryd.func30 h (by kernel_rfl)

/- breccia/breccialaw05.lives  -/
def law05_lives.pre  (w : World) (R : Ending → World → Prop) : Prop :=
 Calls Tryd.prog n_runs_Make #[.int .i64 5, .int .i64 0] w (fun e w0 => ∃ (s1 : Sl), e = .returned (.slice s1.a s1.n s1.c) ∧ 
 Calls Tryd.prog n_runs_Set #[.slice s1.a s1.n s1.c, .int .i64 2, .int .i64 3] w0 (fun e w2 => ∃ (s3 : Sl), e = .returned (.slice s3.a s3.n s3.c) ∧ 
 ∀ w4 : World, w4 = w2.alloc (.cells #[.int .i64 2, .int .i64 0, .int .i64 1, .int .i64 3, .int .i64 2, .int .i64 0] 35) →
 Calls Tryd.prog n_ref05_Same #[.slice s3.a s3.n s3.c, .slice (some ⟨w2.heap.size, 0, none⟩) 3 3] w4 (fun e w5 => ∃ (b6 : Bool), e = .returned (.bool b6) ∧ 
 R (.returned (.bool b6)) w5)))
theorem law05_lives.vc {w} {R : Ending → World → Prop} (h : law05_lives.pre  w R) : Calls Tryd.prog n_law05_lives #[] w R :=
  calls_of_eq (an := ⟨[], [], []⟩) (args := []) Tryd.noNG Tryd.mixed Tryd.func31 h (by kernel_rfl)

/- breccia/runs.May  -/
def runs_May.pre (a0 : Sl) (a1 : Int) (w : World) (R : Ending → World → Prop) : Prop :=
 ∃ I0 : Nat → Int → Int → World → Prop,
 (∃ n1, I0 n1 (0) (a1) w) ∧
 ∀ (n1 : Nat) (us2 : Nat → Value) (x3 : Int) (x4 : Int) (w5 : World), I0 n1 x3 x4 w5 →
 Br (decide ((x3 : Int) < ((a0.n : Nat) : Int)))
 (InB a0.a x3 a0.n ∧ ∃ (x7 : Int) (x8 : Int), LoadL w5 (padd a0.a ((x3 : Int).toNat * 2)) 0 [.int .i64 x7, .int .i64 x8] ∧
 ∀ w9 : World, w9 = w5.alloc (.cells #[.int .i64 0, .int .i64 0] 35) →
 ∀ w10 : World, w10 = w9.setRow w5.heap.size #[.int .i64 x7, .int .i64 x8] →
 Br (decide ((x7 : Int) < 1))
 (R (.returned (.bool false)) w10.drew)
 (Br (decide ((x7 : Int) > x4))
 (R (.returned (.bool false)) w10.drew)
 (Calls Tryd.prog n_block_May #[.int .i64 x8] w10.drew (fun e w11 => ∃ (b12 : Bool), e = .returned (.bool b12) ∧ w11.heap[w5.heap.size]? = w10.drew.heap[w5.heap.size]? ∧ 
 LoadL w11 (some ⟨w5.heap.size, 0, none⟩) 0 [.int .i64 x7] ∧ LoadL w11 (some ⟨w5.heap.size, 0, none⟩) 0 [.int .i64 x7] ∧ Br (!b12)
 (R (.returned (.bool false)) w11)
 (Br (decide ((x3 : Int) > 0))
 (InB a0.a (IntKind.wrap .i64 (x3 - 1)) a0.n ∧ AndL (nnC (padd a0.a (((IntKind.wrap .i64 (x3 - 1)) : Int).toNat * 2))) (∃ (x13 : Int), ld w11 (padd (padd a0.a (((IntKind.wrap .i64 (x3 - 1)) : Int).toNat * 2)) 1) = some (.int .i64 x13) ∧
 Br ((x13 : Int) == x8)
 (R (.returned (.bool false)) w11)
 (∃ n6, n6 < n1 ∧ I0 n6 ((IntKind.wrap .i64 (x3 + 1))) ((IntKind.wrap .i64 (x4 - x7))) w11)))
 (∃ n6, n6 < n1 ∧ I0 n6 ((IntKind.wrap .i64 (x3 + 1))) ((IntKind.wrap .i64 (x4 - x7))) w11))))))
 (Br (decide ((a1 : Int) > 0))
 (R (.returned (.bool ((x4 : Int) == 0))) w5)
 (R (.returned (.bool false)) w5))
theorem runs_May.vc {a0 a1 w} {R : Ending → World → Prop} (h : runs_May.pre a0 a1 w R) : Calls Tryd.prog n_runs_May #[.slice a0.a a0.n a0.c, .int .i64 a1] w R :=
  calls_of_eq (an := ⟨[(3, ⟨[(11, .int .i64), (5, .int .i64)], [], []⟩)], [], []⟩) (args := [.slice a0.a a0.n a0.c, .int .i64 a1]) Tryd.noNG Tryd.mixed Tryd.func32 h (by kernel_rfl)

/- breccia/brecciaref05.May  -/
def ref05_May.pre (a0 : Sl) (a1 : Int) (w : World) (R : Ending → World → Prop) : Prop :=
 ∃ I0 : Nat → Int → Int → World → Prop,
 (∃ n1, I0 n1 (0) (a1) w) ∧
 ∀ (n1 : Nat) (us2 : Nat → Value) (x3 : Int) (x4 : Int) (w5 : World), I0 n1 x3 x4 w5 →
 Br (decide ((x3 : Int) < ((a0.n : Nat) : Int)))
 (InB a0.a x3 a0.n ∧ AndL (nnC (padd a0.a ((x3 : Int).toNat * 2))) (∃ (x7 : Int), ld w5 (padd (padd a0.a ((x3 : Int).toNat * 2)) 1) = some (.int .i64 x7) ∧
 Calls Tryd.prog n_ref04_May #[.int .i64 x7] w5 (fun e w8 => ∃ (b9 : Bool), e = .returned (.bool b9) ∧ 
 Br (!b9)
 (R (.returned (.bool false)) w8)
 (InB a0.a x3 a0.n ∧ AndL (nnC (padd a0.a ((x3 : Int).toNat * 2))) (∃ (x10 : Int), ld w8 (padd (padd a0.a ((x3 : Int).toNat * 2)) 0) = some (.int .i64 x10) ∧
 Br (decide ((x10 : Int) < 1))
 (R (.returned (.bool false)) w8)
 (InB a0.a x3 a0.n ∧ AndL (nnC (padd a0.a ((x3 : Int).toNat * 2))) (∃ (x11 : Int), ld w8 (padd (padd a0.a ((x3 : Int).toNat * 2)) 0) = some (.int .i64 x11) ∧
 Br (decide ((x11 : Int) > x4))
 (R (.returned (.bool false)) w8)
 (Br (decide ((x3 : Int) > 0))
 (InB a0.a x3 a0.n ∧ AndL (nnC (padd a0.a ((x3 : Int).toNat * 2))) (∃ (x12 : Int), ld w8.drew (padd (padd a0.a ((x3 : Int).toNat * 2)) 1) = some (.int .i64 x12) ∧
 InB a0.a (IntKind.wrap .i64 (x3 - 1)) a0.n ∧ AndL (nnC (padd a0.a (((IntKind.wrap .i64 (x3 - 1)) : Int).toNat * 2))) (∃ (x13 : Int), ld w8.drew (padd (padd a0.a (((IntKind.wrap .i64 (x3 - 1)) : Int).toNat * 2)) 1) = some (.int .i64 x13) ∧
 Br ((x12 : Int) == x13)
 (R (.returned (.bool false)) w8.drew)
 (InB a0.a x3 a0.n ∧ AndL (nnC (padd a0.a ((x3 : Int).toNat * 2))) (∃ (x14 : Int), ld w8.drew (padd (padd a0.a ((x3 : Int).toNat * 2)) 0) = some (.int .i64 x14) ∧
 ∃ n6, n6 < n1 ∧ I0 n6 ((IntKind.wrap .i64 (x3 + 1))) ((IntKind.wrap .i64 (x4 - x14))) w8.drew)))))
 (InB a0.a x3 a0.n ∧ AndL (nnC (padd a0.a ((x3 : Int).toNat * 2))) (∃ (x15 : Int), ld w8.drew (padd (padd a0.a ((x3 : Int).toNat * 2)) 0) = some (.int .i64 x15) ∧
 ∃ n6, n6 < n1 ∧ I0 n6 ((IntKind.wrap .i64 (x3 + 1))) ((IntKind.wrap .i64 (x4 - x15))) w8.drew))))))))))
 (Br ((x4 : Int) == 0)
 (R (.returned (.bool (decide ((a1 : Int) > 0)))) w5)
 (R (.returned (.bool false)) w5))
theorem ref05_May.vc {a0 a1 w} {R : Ending → World → Prop} (h : ref05_May.pre a0 a1 w R) : Calls Tryd.prog n_ref05_May #[.slice a0.a a0.n a0.c, .int .i64 a1] w R :=
  calls_of_eq (an := ⟨[(3, ⟨[(6, .int .i64), (5, .int .i64)], [], []⟩)], [], []⟩) (args := [.slice a0.a a0.n a0.c, .int .i64 a1]) Tryd.noNG Tryd.mixed Tryd.func33 h (by kernel_rfl)

/- breccia/runs.Fill  -/
def runs_Fill.pre (a0 : Sl) (a1 : Int) (a2 : Int) (a3 : Int) (w : World) (R : Ending → World → Prop) : Prop :=
 Calls Tryd.prog n_runs_Len #[.slice a0.a a0.n a0.c] w (fun e w0 => ∃ (x1 : Int), e = .returned (.int .i64 x1) ∧ 
 Calls Tryd.prog n_block_May #[.int .i64 a3] w0 (fun e w2 => ∃ (b3 : Bool), e = .returned (.bool b3) ∧ 
 Br (!b3)
 (Calls Tryd.prog n_slices_Clone_Run #[.slice a0.a a0.n a0.c] w2 (fun e w4 => ∃ (s5 : Sl), e = .returned (.slice s5.a s5.n s5.c) ∧ 
 R (.returned (.slice s5.a s5.n s5.c)) w4))
 (Br (decide (((if x1 < (if 0 > a1 then 0 else a1) then x1 else (if 0 > a1 then 0 else a1)) : Int) ≥ (if x1 < (if 0 > a2 then 0 else a2) then x1 else (if 0 > a2 then 0 else a2))))
 (Calls Tryd.prog n_slices_Clone_Run #[.slice a0.a a0.n a0.c] w2 (fun e w6 => ∃ (s7 : Sl), e = .returned (.slice s7.a s7.n s7.c) ∧ 
 R (.returned (.slice s7.a s7.n s7.c)) w6))
 (Calls Tryd.prog n_runs_Cut #[.slice a0.a a0.n a0.c, .int .i64 0, .int .i64 (if x1 < (if 0 > a1 then 0 else a1) then x1 else (if 0 > a1 then 0 else a1))] w2 (fun e w8 => ∃ (s9 : Sl), e = .returned (.slice s9.a s9.n s9.c) ∧ 
 Calls Tryd.prog n_runs_Make #[.int .i64 (IntKind.wrap .i64 ((if x1 < (if 0 > a2 then 0 else a2) then x1 else (if 0 > a2 then 0 else a2)) - (if x1 < (if 0 > a1 then 0 else a1) then x1 else (if 0 > a1 then 0 else a1)))), .int .i64 a3] w8 (fun e w10 => ∃ (s11 : Sl), e = .returned (.slice s11.a s11.n s11.c) ∧ 
 Calls Tryd.prog n_runs_Cut #[.slice a0.a a0.n a0.c, .int .i64 (if x1 < (if 0 > a2 then 0 else a2) then x1 else (if 0 > a2 then 0 else a2)), .int .i64 x1] w10 (fun e w12 => ∃ (s13 : Sl), e = .returned (.slice s13.a s13.n s13.c) ∧ 
 ∀ w14 : World, w14 = w12.alloc (.cells #[.slice s9.a s9.n s9.c, .slice s11.a s11.n s11.c, .slice s13.a s13.n s13.c] 22) →
 Calls Tryd.prog n_runs_join #[.slice (some ⟨w12.heap.size, 0, none⟩) 3 3] w14 (fun e w15 => ∃ (s16 : Sl), e = .returned (.slice s16.a s16.n s16.c) ∧ 
 R (.returned (.slice s16.a s16.n s16.c)) w15))))))))
theorem runs_Fill.vc {a0 a1 a2 a3 w} {R : Ending → World → Prop} (h : runs_Fill.pre a0 a1 a2 a3 w R) : Calls Tryd.prog n_runs_Fill #[.slice a0.a a0.n a0.c, .int .i64 a1, .int .i64 a2, .int .i64 a3] w R :=
  calls_of_eq (an := ⟨[], [], []⟩) (args := [.slice a0.a a0.n a0.c, .int .i64 a1, .int .i64 a2, .int .i64 a3]) Tryd.noNG Tryd.mixed Tryd.func34 h (by kernel_rfl)

/- breccia/brecciaref05.Fill  -/
def ref05_Fill.pre (a0 : Sl) (a1 : Int) (a2 : Int) (a3 : Int) (w : World) (R : Ending → World → Prop) : Prop :=
 Calls Tryd.prog n_ref05_Cells #[.slice a0.a a0.n a0.c] w (fun e w0 => ∃ (s1 : Sl), e = .returned (.slice s1.a s1.n s1.c) ∧ 
 Calls Tryd.prog n_ref04_May #[.int .i64 a3] w0 (fun e w2 => ∃ (b3 : Bool), e = .returned (.bool b3) ∧ 
 ∃ I4 : Nat → Int → World → Prop,
 (∃ n5, I4 n5 (0) w2) ∧
 ∀ (n5 : Nat) (us6 : Nat → Value) (x7 : Int) (w8 : World), I4 n5 x7 w8 →
 Br (decide ((x7 : Int) < ((s1.n : Nat) : Int)))
 (Br b3
 (Br (decide ((x7 : Int) ≥ a1))
 (Br (decide ((x7 : Int) < a2))
 (InB s1.a x7 s1.n ∧ (((padd s1.a ((x7 : Int).toNat * 1))).isSome = true ∧ Wr w8 (padd s1.a ((x7 : Int).toNat * 1)) 1) ∧ (∀ w10 : World, w10 = setP w8 (padd s1.a ((x7 : Int).toNat * 1)) [.int .i64 a3] →
 ∃ n9, n9 < n5 ∧ I4 n9 ((IntKind.wrap .i64 (x7 + 1))) w10))
 (∃ n9, n9 < n5 ∧ I4 n9 ((IntKind.wrap .i64 (x7 + 1))) w8))
 (∃ n9, n9 < n5 ∧ I4 n9 ((IntKind.wrap .i64 (x7 + 1))) w8))
 (∃ n9, n9 < n5 ∧ I4 n9 ((IntKind.wrap .i64 (x7 + 1))) w8))
 (Calls Tryd.prog n_ref05_Of #[.slice s1.a s1.n s1.c] w8 (fun e w11 => ∃ (s12 : Sl), e = .returned (.slice s12.a s12.n s12.c) ∧ 
 R (.returned (.slice s12.a s12.n s12.c)) w11))))
theorem ref05_Fill.vc {a0 a1 a2 a3 w} {R : Ending → World → Prop} (h : ref05_Fill.pre a0 a1 a2 a3 w R) : Calls Tryd.prog n_ref05_Fill #[.slice a0.a a0.n a0.c, .int .i64 a1, .int .i64 a2, .int .i64 a3] w R :=
  calls_of_eq (an := ⟨[(4, ⟨[(11, .int .i64)], [], []⟩)], [], []⟩) (args := [.slice a0.a a0.n a0.c, .int .i64 a1, .int .i64 a2, .int .i64 a3]) Tryd.noNG Tryd.mixed Tryd.func35 h (by kernel_rfl)

/- breccia/runs.Len  -/
def runs_Len.pre (a0 : Sl) (w : World) (R : Ending → World → Prop) : Prop :=
 ∃ I0 : Nat → Int → Int → World → Prop,
 (∃ n1, I0 n1 (0) (0) w) ∧
 ∀ (n1 : Nat) (us2 : Nat → Value) (x3 : Int) (x4 : Int) (w5 : World), I0 n1 x3 x4 w5 →
 Br (decide ((x3 : Int) < ((a0.n : Nat) : Int)))
 (InB a0.a x3 a0.n ∧ ∃ (x7 : Int) (x8 : Int), LoadL w5 (padd a0.a ((x3 : Int).toNat * 2)) 0 [.int .i64 x7, .int .i64 x8] ∧
 ∀ w9 : World, w9 = w5.alloc (.cells #[.int .i64 0, .int .i64 0] 35) →
 ∀ w10 : World, w10 = w9.setRow w5.heap.size #[.int .i64 x7, .int .i64 x8] →
 ∃ n6, n6 < n1 ∧ I0 n6 ((IntKind.wrap .i64 (x3 + 1))) ((IntKind.wrap .i64 (x4 + x7))) w10)
 (R (.returned (.int .i64 x4)) w5)
theorem runs_Len.vc {a0 w} {R : Ending → World → Prop} (h : runs_Len.pre a0 w R) : Calls Tryd.prog n_runs_Len #[.slice a0.a a0.n a0.c] w R :=
  calls_of_eq (an := ⟨[(3, ⟨[(8, .int .i64), (3, .int .i64)], [], []⟩)], [], []⟩) (args := [.slice a0.a a0.n a0.c]) Tryd.noNG Tryd.mixed Tryd.func36 h (by kernel_rfl)

/- breccia/runs.At  -/
def runs_At.pre (a0 : Sl) (a1 : Int) (w : World) (R : Ending → World → Prop) : Prop :=
 ∃ I0 : Nat → Int → Int → World → Prop,
 (∃ n1, I0 n1 (0) (a1) w) ∧
 ∀ (n1 : Nat) (us2 : Nat → Value) (x3 : Int) (x4 : Int) (w5 : World), I0 n1 x3 x4 w5 →
 Br (decide ((x3 : Int) < ((a0.n : Nat) : Int)))
 (InB a0.a x3 a0.n ∧ ∃ (x7 : Int) (x8 : Int), LoadL w5 (padd a0.a ((x3 : Int).toNat * 2)) 0 [.int .i64 x7, .int .i64 x8] ∧
 ∀ w9 : World, w9 = w5.alloc (.cells #[.int .i64 0, .int .i64 0] 35) →
 ∀ w10 : World, w10 = w9.setRow w5.heap.size #[.int .i64 x7, .int .i64 x8] →
 Br (decide ((x4 : Int) ≥ 0))
 (Br (decide ((x4 : Int) < x7))
 (R (.returned (.int .i64 x8)) w10)
 (∃ n6, n6 < n1 ∧ I0 n6 ((IntKind.wrap .i64 (x3 + 1))) ((IntKind.wrap .i64 (x4 - x7))) w10))
 (∃ n6, n6 < n1 ∧ I0 n6 ((IntKind.wrap .i64 (x3 + 1))) ((IntKind.wrap .i64 (x4 - x7))) w10))
 (R (.returned (.int .i64 (-1))) w5)
theorem runs_At.vc {a0 a1 w} {R : Ending → World → Prop} (h : runs_At.pre a0 a1 w R) : Calls Tryd.prog n_runs_At #[.slice a0.a a0.n a0.c, .int .i64 a1] w R :=
  calls_of_eq (an := ⟨[(2, ⟨[(9, .int .i64), (1, .int .i64)], [], []⟩)], [], []⟩) (args := [.slice a0.a a0.n a0.c, .int .i64 a1]) Tryd.noNG Tryd.mixed Tryd.func37 h (by kernel_rfl)

/- breccia/runs.Count  -/
def runs_Count.pre (a0 : Sl) (a1 : Int) (w : World) (R : Ending → World → Prop) : Prop :=
 ∃ I0 : Nat → Int → Int → World → Prop,
 (∃ n1, I0 n1 (0) (0) w) ∧
 ∀ (n1 : Nat) (us2 : Nat → Value) (x3 : Int) (x4 : Int) (w5 : World), I0 n1 x3 x4 w5 →
 Br (decide ((x3 : Int) < ((a0.n : Nat) : Int)))
 (InB a0.a x3 a0.n ∧ ∃ (x7 : Int) (x8 : Int), LoadL w5 (padd a0.a ((x3 : Int).toNat * 2)) 0 [.int .i64 x7, .int .i64 x8] ∧
 ∀ w9 : World, w9 = w5.alloc (.cells #[.int .i64 0, .int .i64 0] 35) →
 ∀ w10 : World, w10 = w9.setRow w5.heap.size #[.int .i64 x7, .int .i64 x8] →
 Br ((x8 : Int) == a1)
 (∃ n6, n6 < n1 ∧ I0 n6 ((IntKind.wrap .i64 (x3 + 1))) ((IntKind.wrap .i64 (x4 + x7))) w10)
 (∃ n6, n6 < n1 ∧ I0 n6 ((IntKind.wrap .i64 (x3 + 1))) (x4) w10))
 (R (.returned (.int .i64 x4)) w5)
theorem runs_Count.vc {a0 a1 w} {R : Ending → World → Prop} (h : runs_Count.pre a0 a1 w R) : Calls Tryd.prog n_runs_Count #[.slice a0.a a0.n a0.c, .int .i64 a1] w R :=
  calls_of_eq (an := ⟨[(3, ⟨[(10, .int .i64), (5, .int .i64)], [], []⟩)], [], []⟩) (args := [.slice a0.a a0.n a0.c, .int .i64 a1]) Tryd.noNG Tryd.mixed Tryd.func38 h (by kernel_rfl)

/- breccia/brecciaref05.Set  -/
def ref05_Set.pre (a0 : Sl) (a1 : Int) (a2 : Int) (w : World) (R : Ending → World → Prop) : Prop :=
 Calls Tryd.prog n_ref05_Cells #[.slice a0.a a0.n a0.c] w (fun e w0 => ∃ (s1 : Sl), e = .returned (.slice s1.a s1.n s1.c) ∧ 
 Calls Tryd.prog n_ref04_May #[.int .i64 a2] w0 (fun e w2 => ∃ (b3 : Bool), e = .returned (.bool b3) ∧ 
 Br b3
 (Br (decide ((a1 : Int) ≥ 0))
 (Br (decide ((a1 : Int) < ((s1.n : Nat) : Int)))
 (InB s1.a a1 s1.n ∧ (((padd s1.a ((a1 : Int).toNat * 1))).isSome = true ∧ Wr w2 (padd s1.a ((a1 : Int).toNat * 1)) 1) ∧ (∀ w4 : World, w4 = setP w2 (padd s1.a ((a1 : Int).toNat * 1)) [.int .i64 a2] →
 Calls Tryd.prog n_ref05_Of #[.slice s1.a s1.n s1.c] w4 (fun e w5 => ∃ (s6 : Sl), e = .returned (.slice s6.a s6.n s6.c) ∧ 
 R (.returned (.slice s6.a s6.n s6.c)) w5)))
 (Calls Tryd.prog n_ref05_Of #[.slice s1.a s1.n s1.c] w2 (fun e w7 => ∃ (s8 : Sl), e = .returned (.slice s8.a s8.n s8.c) ∧ 
 R (.returned (.slice s8.a s8.n s8.c)) w7)))
 (Calls Tryd.prog n_ref05_Of #[.slice s1.a s1.n s1.c] w2 (fun e w9 => ∃ (s10 : Sl), e = .returned (.slice s10.a s10.n s10.c) ∧ 
 R (.returned (.slice s10.a s10.n s10.c)) w9)))
 (Calls Tryd.prog n_ref05_Of #[.slice s1.a s1.n s1.c] w2 (fun e w11 => ∃ (s12 : Sl), e = .returned (.slice s12.a s12.n s12.c) ∧ 
 R (.returned (.slice s12.a s12.n s12.c)) w11))))
theorem ref05_Set.vc {a0 a1 a2 w} {R : Ending → World → Prop} (h : ref05_Set.pre a0 a1 a2 w R) : Calls Tryd.prog n_ref05_Set #[.slice a0.a a0.n a0.c, .int .i64 a1, .int .i64 a2] w R :=
  calls_of_eq (an := ⟨[], [], []⟩) (args := [.slice a0.a a0.n a0.c, .int .i64 a1, .int .i64 a2]) Tryd.noNG Tryd.mixed Tryd.func39 h (by kernel_rfl)

/- breccia/brecciaref05.At  -/
def ref05_At.pre (a0 : Sl) (a1 : Int) (w : World) (R : Ending → World → Prop) : Prop :=
 Calls Tryd.prog n_ref05_Cells #[.slice a0.a a0.n a0.c] w (fun e w0 => ∃ (s1 : Sl), e = .returned (.slice s1.a s1.n s1.c) ∧ 
 Br (decide ((a1 : Int) < 0))
 (R (.returned (.int .i64 (-1))) w0)
 (Br (decide ((a1 : Int) ≥ ((s1.n : Nat) : Int)))
 (R (.returned (.int .i64 (-1))) w0)
 (InB s1.a a1 s1.n ∧ ∃ (x2 : Int), ld w0 (padd s1.a ((a1 : Int).toNat * 1)) = some (.int .i64 x2) ∧
 R (.returned (.int .i64 x2)) w0)))
theorem ref05_At.vc {a0 a1 w} {R : Ending → World → Prop} (h : ref05_At.pre a0 a1 w R) : Calls Tryd.prog n_ref05_At #[.slice a0.a a0.n a0.c, .int .i64 a1] w R :=
  calls_of_eq (an := ⟨[], [], []⟩) (args := [.slice a0.a a0.n a0.c, .int .i64 a1]) Tryd.noNG Tryd.mixed Tryd.func40 h (by kernel_rfl)

/- breccia/runs.Make  -/
def runs_Make.pre (a0 : Int) (a1 : Int) (w : World) (R : Ending → World → Prop) : Prop :=
 Calls Tryd.prog n_runs_push #[.slice none 0 0, .agg #[.int .i64 a0, .int .i64 a1]] w (fun e w0 => ∃ (s1 : Sl), e = .returned (.slice s1.a s1.n s1.c) ∧ 
 R (.returned (.slice s1.a s1.n s1.c)) w0)
theorem runs_Make.vc {a0 a1 w} {R : Ending → World → Prop} (h : runs_Make.pre a0 a1 w R) : Calls Tryd.prog n_runs_Make #[.int .i64 a0, .int .i64 a1] w R :=
  calls_of_eq (an := ⟨[], [], []⟩) (args := [.int .i64 a0, .int .i64 a1]) Tryd.noNG Tryd.mixed Tryd.func41 h (by kernel_rfl)

/- breccia/brecciaref05.Blocks  -/
def ref05_Blocks.pre (a0 : Sl) (a1 : Int) (w : World) (R : Ending → World → Prop) : Prop :=
 ∃ I0 : Nat → Int → Sl → World → Prop,
 (∃ n1, I0 n1 (0) ⟨none, 0, 0⟩ w) ∧
 ∀ (n1 : Nat) (us2 : Nat → Value) (x3 : Int) (s4 : Sl) (w5 : World), I0 n1 x3 s4 w5 →
 Br (decide ((x3 : Int) < ((a0.n : Nat) : Int)))
 (Br (decide ((x3 : Int) < a1))
 (InB a0.a x3 a0.n ∧ ∃ (x7 : Int), ld w5 (padd a0.a ((x3 : Int).toNat * 1)) = some (.int .i64 x7) ∧
 Calls Tryd.prog n_ref04_Good #[.int .i64 x7] w5 (fun e w8 => ∃ (x9 : Int), e = .returned (.int .i64 x9) ∧ 
 ∀ w10 : World, w10 = w8.alloc (.cells #[.int .i64 x9] 3) →
 AppPre 8 1 w10 ⟨s4.a, s4.n, s4.c⟩ 1 [.int .i64 x9] ∧ ∀ (s11 : Sl) (w12 : World), AppRes 3 1 w10 ⟨s4.a, s4.n, s4.c⟩ 1 [.int .i64 x9] s11 w12 → w12.heap[w8.heap.size]? = w10.heap[w8.heap.size]? ∧ 
 ∃ n6, n6 < n1 ∧ I0 n6 ((IntKind.wrap .i64 (x3 + 1))) ⟨s11.a, s11.n, s11.c⟩ w12))
 (R (.returned (.slice s4.a s4.n s4.c)) w5))
 (R (.returned (.slice s4.a s4.n s4.c)) w5)
theorem ref05_Blocks.vc {a0 a1 w} {R : Ending → World → Prop} (h : ref05_Blocks.pre a0 a1 w R) : Calls Tryd.prog n_ref05_Blocks #[.slice a0.a a0.n a0.c, .int .i64 a1] w R :=
  calls_of_eq (an := ⟨[(3, ⟨[(6, .int .i64), (5, .slice)], [], []⟩)], [], []⟩) (args := [.slice a0.a a0.n a0.c, .int .i64 a1]) Tryd.noNG Tryd.mixed Tryd.func42 h (by kernel_rfl)

/- breccia/runs.Of  -/
def runs_Of.pre (a0 : Sl) (w : World) (R : Ending → World → Prop) : Prop :=
 ∃ I0 : Nat → Int → Sl → World → Prop,
 (∃ n1, I0 n1 (0) ⟨none, 0, 0⟩ w) ∧
 ∀ (n1 : Nat) (us2 : Nat → Value) (x3 : Int) (s4 : Sl) (w5 : World), I0 n1 x3 s4 w5 →
 Br (decide ((x3 : Int) < ((a0.n : Nat) : Int)))
 (InB a0.a x3 a0.n ∧ ∃ (x7 : Int), ld w5 (padd a0.a ((x3 : Int).toNat * 1)) = some (.int .i64 x7) ∧
 Calls Tryd.prog n_runs_push #[.slice s4.a s4.n s4.c, .agg #[.int .i64 1, .int .i64 x7]] w5 (fun e w8 => ∃ (s9 : Sl), e = .returned (.slice s9.a s9.n s9.c) ∧ 
 ∃ n6, n6 < n1 ∧ I0 n6 ((IntKind.wrap .i64 (x3 + 1))) ⟨s9.a, s9.n, s9.c⟩ w8))
 (R (.returned (.slice s4.a s4.n s4.c)) w5)
theorem runs_Of.vc {a0 w} {R : Ending → World → Prop} (h : runs_Of.pre a0 w R) : Calls Tryd.prog n_runs_Of #[.slice a0.a a0.n a0.c] w R :=
  calls_of_eq (an := ⟨[(3, ⟨[(8, .int .i64), (3, .slice)], [], []⟩)], [], []⟩) (args := [.slice a0.a a0.n a0.c]) Tryd.noNG Tryd.mixed Tryd.func43 h (by kernel_rfl)

/- breccia/brecciaref05.Of  -/
def ref05_Of.pre (a0 : Sl) (w : World) (R : Ending → World → Prop) : Prop :=
 ∃ I0 : Nat → Int → Sl → World → Prop,
 (∃ n1, I0 n1 (0) ⟨none, 0, 0⟩ w) ∧
 ∀ (n1 : Nat) (us2 : Nat → Value) (x3 : Int) (s4 : Sl) (w5 : World), I0 n1 x3 s4 w5 →
 Br (decide ((x3 : Int) < ((a0.n : Nat) : Int)))
 (Br (decide ((x3 : Int) > 0))
 (InB a0.a (IntKind.wrap .i64 (x3 - 1)) a0.n ∧ ∃ (x7 : Int), ld w5.drew (padd a0.a (((IntKind.wrap .i64 (x3 - 1)) : Int).toNat * 1)) = some (.int .i64 x7) ∧
 InB a0.a x3 a0.n ∧ ∃ (x8 : Int), ld w5.drew (padd a0.a ((x3 : Int).toNat * 1)) = some (.int .i64 x8) ∧
 Br ((x7 : Int) == x8)
 (InB s4.a (IntKind.wrap .i64 (((s4.n : Nat) : Int) - 1)) s4.n ∧ AndL (nnC (padd s4.a (((IntKind.wrap .i64 (((s4.n : Nat) : Int) - 1)) : Int).toNat * 2))) (∃ (x9 : Int), ld w5.drew (padd (padd s4.a (((IntKind.wrap .i64 (((s4.n : Nat) : Int) - 1)) : Int).toNat * 2)) 0) = some (.int .i64 x9) ∧
 InB s4.a (IntKind.wrap .i64 (((s4.n : Nat) : Int) - 1)) s4.n ∧ AndL (nnC (padd s4.a (((IntKind.wrap .i64 (((s4.n : Nat) : Int) - 1)) : Int).toNat * 2))) ((((padd (padd s4.a (((IntKind.wrap .i64 (((s4.n : Nat) : Int) - 1)) : Int).toNat * 2)) 0)).isSome = true ∧ Wr w5.drew (padd (padd s4.a (((IntKind.wrap .i64 (((s4.n : Nat) : Int) - 1)) : Int).toNat * 2)) 0) 1) ∧ (∀ w10 : World, w10 = setP w5.drew (padd (padd s4.a (((IntKind.wrap .i64 (((s4.n : Nat) : Int) - 1)) : Int).toNat * 2)) 0) [.int .i64 (IntKind.wrap .i64 (x9 + 1))] →
 ∃ n6, n6 < n1 ∧ I0 n6 ((IntKind.wrap .i64 (x3 + 1))) ⟨s4.a, s4.n, s4.c⟩ w10))))
 (InB a0.a x3 a0.n ∧ ∃ (x11 : Int), ld w5.drew (padd a0.a ((x3 : Int).toNat * 1)) = some (.int .i64 x11) ∧
 ∀ w12 : World, w12 = w5.drew.alloc (.cells #[.int .i64 1, .int .i64 x11] 35) →
 AppPre 16 2 w12 ⟨s4.a, s4.n, s4.c⟩ 1 [.int .i64 1, .int .i64 x11] ∧ ∀ (s13 : Sl) (w14 : World), AppRes 35 2 w12 ⟨s4.a, s4.n, s4.c⟩ 1 [.int .i64 1, .int .i64 x11] s13 w14 → w14.heap[w5.drew.heap.size]? = w12.heap[w5.drew.heap.size]? ∧ 
 ∃ n6, n6 < n1 ∧ I0 n6 ((IntKind.wrap .i64 (x3 + 1))) ⟨s13.a, s13.n, s13.c⟩ w14))
 (InB a0.a x3 a0.n ∧ ∃ (x15 : Int), ld w5.drew (padd a0.a ((x3 : Int).toNat * 1)) = some (.int .i64 x15) ∧
 ∀ w16 : World, w16 = w5.drew.alloc (.cells #[.int .i64 1, .int .i64 x15] 35) →
 AppPre 16 2 w16 ⟨s4.a, s4.n, s4.c⟩ 1 [.int .i64 1, .int .i64 x15] ∧ ∀ (s17 : Sl) (w18 : World), AppRes 35 2 w16 ⟨s4.a, s4.n, s4.c⟩ 1 [.int .i64 1, .int .i64 x15] s17 w18 → w18.heap[w5.drew.heap.size]? = w16.heap[w5.drew.heap.size]? ∧ 
 ∃ n6, n6 < n1 ∧ I0 n6 ((IntKind.wrap .i64 (x3 + 1))) ⟨s17.a, s17.n, s17.c⟩ w18))
 (R (.returned (.slice s4.a s4.n s4.c)) w5)
theorem ref05_Of.vc {a0 w} {R : Ending → World → Prop} (h : ref05_Of.pre a0 w R) : Calls Tryd.prog n_ref05_Of #[.slice a0.a a0.n a0.c] w R :=
  calls_of_eq (an := ⟨[(3, ⟨[(4, .int .i64), (3, .slice)], [], []⟩)], [], []⟩) (args := [.slice a0.a a0.n a0.c]) Tryd.noNG Tryd.mixed Tryd.func44 h (by kernel_rfl)

/- breccia/brecciaref05.SameCells  -/
def ref05_SameCells.pre (a0 : Sl) (a1 : Sl) (w : World) (R : Ending → World → Prop) : Prop :=
 Br ((((a0.n : Nat) : Int) : Int) != ((a1.n : Nat) : Int))
 (R (.returned (.bool false)) w)
 (∃ I0 : Nat → Int → World → Prop,
 (∃ n1, I0 n1 (0) w) ∧
 ∀ (n1 : Nat) (us2 : Nat → Value) (x3 : Int) (w4 : World), I0 n1 x3 w4 →
 Br (decide ((x3 : Int) < ((a0.n : Nat) : Int)))
 (InB a0.a x3 a0.n ∧ ∃ (x6 : Int), ld w4.drew (padd a0.a ((x3 : Int).toNat * 1)) = some (.int .i64 x6) ∧
 InB a1.a x3 a1.n ∧ ∃ (x7 : Int), ld w4.drew (padd a1.a ((x3 : Int).toNat * 1)) = some (.int .i64 x7) ∧
 Br ((x6 : Int) != x7)
 (R (.returned (.bool false)) w4.drew)
 (∃ n5, n5 < n1 ∧ I0 n5 ((IntKind.wrap .i64 (x3 + 1))) w4.drew))
 (R (.returned (.bool true)) w4))
theorem ref05_SameCells.vc {a0 a1 w} {R : Ending → World → Prop} (h : ref05_SameCells.pre a0 a1 w R) : Calls Tryd.prog n_ref05_SameCells #[.slice a0.a a0.n a0.c, .slice a1.a a1.n a1.c] w R :=
  calls_of_eq (an := ⟨[(4, ⟨[(5, .int .i64)], [], []⟩)], [], []⟩) (args := [.slice a0.a a0.n a0.c, .slice a1.a a1.n a1.c]) Tryd.noNG Tryd.mixed Tryd.func45 h (by kernel_rfl)

/- breccia/runs.Cells  -/
def runs_Cells.pre (a0 : Sl) (w : World) (R : Ending → World → Prop) : Prop :=
 ∀ w0 : World, w0 = w.alloc (.cells #[.slice none 0 0] 32) →
 Calls Tryd.prog n_runs_All #[.slice a0.a a0.n a0.c] w0 (fun e w1 => ∃ (v2 : Value), e = .returned (v2) ∧ w1.heap[w.heap.size]? = w0.heap[w.heap.size]? ∧ 
 ∃ (xs3 : List (List Value)) (Rd4 F5 : Nat → Prop) (I6 : Nat → (Nat → Prop) → Sl → World → Prop) (X7 : Option Nat → (Nat → Prop) → Sl → World → Prop),
 (∀ x ∈ xs3, ∃ (x8 : Int) (x9 : Int), x = [.int .i64 x8, .int .i64 x9]) ∧
 (∀ (n10 : Nat) (F11 : Nat → Prop) (s12 : Sl) (w13 w14 : World), I6 n10 F11 s12 w13 → Below w1.heap.size w13 w14 → (∀ i, F11 i → w14.heap[i]? = w13.heap[i]?) → I6 n10 F11 s12 w14) ∧
 (∀ (n15 : Option Nat) (F16 : Nat → Prop) (s17 : Sl) (w18 w19 : World), X7 n15 F16 s17 w18 → Below w1.heap.size w18 w19 → (∀ i, F16 i → w19.heap[i]? = w18.heap[i]?) → X7 n15 F16 s17 w19) ∧
 (∀ (n20 : Nat) (F21 : Nat → Prop) (s22 : Sl) (w23 : World), I6 n20 F21 s22 w23 → ∀ i, F21 i → i < w23.heap.size ∧ i ≠ w1.heap.size ∧ i ≠ w1.heap.size + 1) ∧
 (∀ (n24 : Option Nat) (F25 : Nat → Prop) (s26 : Sl) (w27 : World), X7 n24 F25 s26 w27 → ∀ i, F25 i → i < w27.heap.size ∧ i ≠ w1.heap.size ∧ i ≠ w1.heap.size + 1) ∧
 (∀ i, Rd4 i → i < w1.heap.size ∧ ¬ F5 i ∧ i ≠ w.heap.size ∧ True) ∧
 (∀ w28 : World, Begun w1.heap.size w1 w28 → Iter Tryd.prog (v2) w28 Rd4 xs3 ∧ I6 0 F5 ⟨none, 0, 0⟩ w28) ∧
 (∀ (n29 : Nat) (F30 : Nat → Prop) (us31 : Nat → Value) (s32 : Sl) (x33 : Int) (x34 : Int) (w35 : World), xs3[n29]? = some [.int .i64 x33, .int .i64 x34] → I6 n29 F30 s32 w35 →
 Below w35.heap.size w35 w35 ∧ ∀ w36 : World, Rec (w1.heap.size + 1) w35 w36 → I6 n29 F30 s32 w36 →
 ∀ w37 : World, w37 = w36.alloc (.cells #[.int .i64 x34] 3) →
 AppPre 8 1 w37 ⟨s32.a, s32.n, s32.c⟩ 1 [.int .i64 x34] ∧ ∀ (s38 : Sl) (w39 : World), AppRes 3 1 w37 ⟨s32.a, s32.n, s32.c⟩ 1 [.int .i64 x34] s38 w39 → w39.heap[w.heap.size]? = w37.heap[w.heap.size]? ∧ w39.heap[w36.heap.size]? = w37.heap[w36.heap.size]? ∧ 
 ∀ w40 : World, w40 = w39.setRow w.heap.size #[.slice s38.a s38.n s38.c] →
 ∃ F41 : Nat → Prop, (I6 (n29 + 1) F41 ⟨s38.a, s38.n, s38.c⟩ w40) ∧ Step (fun i => F30 i ∨ i ∈ ([w.heap.size] : List Nat)) (fun i => F41 i ∨ i ∈ ([w.heap.size] : List Nat)) w36 w40) ∧
 (∀ (F42 : Nat → Prop) (us43 : Nat → Value) (s44 : Sl) (w45 : World), I6 xs3.length F42 s44 w45 → w45.heap[w1.heap.size]? = some (.deferred (some [])) →
 w45.heap[w1.heap.size]? = some (.deferred (some [])) ∧ ∀ w46 : World, Rec w1.heap.size w45 w46 →
 R (.returned (.slice s44.a s44.n s44.c)) w46) ∧
 True)
theorem runs_Cells.vc {a0 w} {R : Ending → World → Prop} (h : runs_Cells.pre a0 w R) : Calls Tryd.prog n_runs_Cells #[.slice a0.a a0.n a0.c] w R :=
  calls_of_eq (an := ⟨[], [], [(4, ⟨[], [(0, [.slice])], []⟩, [.sc (.int .i64), .sc (.int .i64)])]⟩) (args := [.slice a0.a a0.n a0.c]) Tryd.noNG Tryd.mixed Tryd.func46 h (by kernel_rfl)

/- breccia/runs.All  -/
def runs_All.pre (a0 : Sl) (w : World) (R : Ending → World → Prop) : Prop :=
 ∀ w0 : World, w0 = w.alloc (.cells #[.slice a0.a a0.n a0.c] 22) →
 R (.returned (.func (.func 56) #[] #[.pointer (some ⟨w.heap.size, 0, none⟩)])) w0
theorem runs_All.vc {a0 w} {R : Ending → World → Prop} (h : runs_All.pre a0 w R) : Calls Tryd.prog n_runs_All #[.slice a0.a a0.n a0.c] w R :=
  calls_of_eq (an := ⟨[], [], []⟩) (args := [.slice a0.a a0.n a0.c]) Tryd.noNG Tryd.mixed Tryd.func47 h (by kernel_rfl)

/- breccia/code.Read  -/
def code_Read.pre (a0 : Sl) (a1 : Int) (w : World) (R : Ending → World → Prop) : Prop :=
 ∃ I0 : Nat → Sl → Int → Int → Sl → World → Prop,
 (∃ n1, I0 n1 ⟨a0.a, a0.n, a0.c⟩ ((-1)) (a1) ⟨none, 0, 0⟩ w) ∧
 ∀ (n1 : Nat) (us2 : Nat → Value) (s3 : Sl) (x4 : Int) (x5 : Int) (s6 : Sl) (w7 : World), I0 n1 s3 x4 x5 s6 w7 →
 Br (decide ((((s3.n : Nat) : Int) : Int) > 0))
 (InB s3.a 0 s3.n ∧ ∃ (x9 : Int), ld w7 (padd s3.a ((0 : Int).toNat * 1)) = some (.int .u8 x9) ∧
 ∀ w10 : World, w10 = w7.alloc (.cells #[.int .i64 0, .int .i64 0] 35) →
 ∀ w11 : World, w11 = w10.setRow w7.heap.size #[.int .i64 0, .int .i64 (IntKind.wrap .i64 x9)] →
 Calls Tryd.prog n_block_May #[.int .i64 (IntKind.wrap .i64 x9)] w11 (fun e w12 => ∃ (b13 : Bool), e = .returned (.bool b13) ∧ w12.heap[w7.heap.size]? = w11.heap[w7.heap.size]? ∧ 
 Br (!b13)
 (R (.returned (.tuple #[.slice none 0 0, .int .i64 2])) w12)
 (Br (((IntKind.wrap .i64 x9) : Int) == x4)
 (R (.returned (.tuple #[.slice none 0 0, .int .i64 2])) w12)
 ((0 : Int) ≤ ((s3.n : Nat) : Int) ∧ ((s3.n : Nat) : Int) ≤ ((s3.c : Nat) : Int) ∧ (0 : Int) ≤ ((s3.n : Nat) : Int) ∧ (((s3.n : Nat) : Int) : Int) ≤ ((s3.n : Nat) : Int) ∧ (0 : Int) ≤ 1 ∧ (1 : Int) ≤ ((s3.n : Nat) : Int) ∧ Calls Tryd.prog n_code_Digits #[.slice (slBase s3.a ((1 : Int).toNat) ((((s3.n : Nat) : Int) : Int).toNat) 1) ((((s3.n : Nat) : Int) : Int).toNat - (1 : Int).toNat) ((((s3.n : Nat) : Int) : Int).toNat - (1 : Int).toNat)] w12 (fun e w14 => ∃ (x15 : Int) (x16 : Int) (x17 : Int), e = .returned (.tuple #[.int .i64 x15, .int .i64 x16, .int .i64 x17]) ∧ w14.heap[w7.heap.size]? = w12.heap[w7.heap.size]? ∧ 
 Br ((x17 : Int) != 0)
 (R (.returned (.tuple #[.slice none 0 0, .int .i64 x17])) w14)
 (Br ((x15 : Int) == 0)
 (R (.returned (.tuple #[.slice none 0 0, .int .i64 2])) w14)
 (Br (decide ((x15 : Int) > x5))
 (R (.returned (.tuple #[.slice none 0 0, .int .i64 2])) w14)
 (∀ w18 : World, w18 = w14.setRow w7.heap.size #[.int .i64 x15, .int .i64 (IntKind.wrap .i64 x9)] →
 (0 : Int) ≤ (IntKind.wrap .i64 (1 + x16)) ∧ (IntKind.wrap .i64 (1 + x16)) ≤ ((s3.n : Nat) : Int) ∧ ∀ w19 : World, w19 = w18.drew.alloc (.cells #[.int .i64 x15, .int .i64 (IntKind.wrap .i64 x9)] 35) →
 AppPre 16 2 w19 ⟨s6.a, s6.n, s6.c⟩ 1 [.int .i64 x15, .int .i64 (IntKind.wrap .i64 x9)] ∧ ∀ (s20 : Sl) (w21 : World), AppRes 35 2 w19 ⟨s6.a, s6.n, s6.c⟩ 1 [.int .i64 x15, .int .i64 (IntKind.wrap .i64 x9)] s20 w21 → w21.heap[w7.heap.size]? = w19.heap[w7.heap.size]? ∧ w21.heap[w18.drew.heap.size]? = w19.heap[w18.drew.heap.size]? ∧ 
 Br (((IntKind.wrap .i64 (x5 - x15)) : Int) == 0)
 (Br (decide (((IntKind.wrap .i64 (x5 - x15)) : Int) > 0))
 (R (.returned (.tuple #[.slice none 0 0, .int .i64 3])) w21)
 (Br (decide (((((s3.n - ((IntKind.wrap .i64 (1 + x16)) : Int).toNat) : Nat) : Int) : Int) > 0))
 (R (.returned (.tuple #[.slice none 0 0, .int .i64 2])) w21)
 (R (.returned (.tuple #[.slice s20.a s20.n s20.c, .int .i64 0])) w21)))
 (∃ n8, n8 < n1 ∧ I0 n8 ⟨(slBase s3.a (((IntKind.wrap .i64 (1 + x16)) : Int).toNat) (s3.c) 1), (s3.n - ((IntKind.wrap .i64 (1 + x16)) : Int).toNat), (s3.c - ((IntKind.wrap .i64 (1 + x16)) : Int).toNat)⟩ ((IntKind.wrap .i64 x9)) ((IntKind.wrap .i64 (x5 - x15))) ⟨s20.a, s20.n, s20.c⟩ w21)))))))))
 (Br (decide ((x5 : Int) > 0))
 (R (.returned (.tuple #[.slice none 0 0, .int .i64 3])) w7)
 (Br (decide ((((s3.n : Nat) : Int) : Int) > 0))
 (R (.returned (.tuple #[.slice none 0 0, .int .i64 2])) w7)
 (R (.returned (.tuple #[.slice s6.a s6.n s6.c, .int .i64 0])) w7)))
theorem code_Read.vc {a0 a1 w} {R : Ending → World → Prop} (h : code_Read.pre a0 a1 w R) : Calls Tryd.prog n_code_Read #[.slice a0.a a0.n a0.c, .int .i64 a1] w R :=
  calls_of_eq (an := ⟨[(3, ⟨[(0, .slice), (7, .int .i64), (1, .int .i64), (6, .slice)], [], []⟩)], [], []⟩) (args := [.slice a0.a a0.n a0.c, .int .i64 a1]) Tryd.noNG Tryd.mixed Tryd.func48 h (by kernel_rfl)

/- breccia/brecciaref06.Read  -/
def ref06_Read.pre (a0 : Sl) (a1 : Int) (w : World) (R : Ending → World → Prop) : Prop :=
 ∃ I0 : Nat → Int → Int → Sl → World → Prop,
 (∃ n1, I0 n1 (a1) (0) ⟨none, 0, 0⟩ w) ∧
 ∀ (n1 : Nat) (us2 : Nat → Value) (x3 : Int) (x4 : Int) (s5 : Sl) (w6 : World), I0 n1 x3 x4 s5 w6 →
 Br (decide ((x3 : Int) > 0))
 (Br (decide ((x4 : Int) ≥ ((a0.n : Nat) : Int)))
 (R (.returned (.tuple #[.slice none 0 0, .int .i64 3])) w6)
 (InB a0.a x4 a0.n ∧ ∃ (x8 : Int), ld w6 (padd a0.a ((x4 : Int).toNat * 1)) = some (.int .u8 x8) ∧
 Calls Tryd.prog n_ref04_May #[.int .i64 (IntKind.wrap .i64 x8)] w6 (fun e w9 => ∃ (b10 : Bool), e = .returned (.bool b10) ∧ 
 Br (!b10)
 (R (.returned (.tuple #[.slice none 0 0, .int .i64 2])) w9)
 (Br (decide ((((s5.n : Nat) : Int) : Int) > 0))
 (InB s5.a (if 0 > (IntKind.wrap .i64 (((s5.n : Nat) : Int) - 1)) then 0 else (IntKind.wrap .i64 (((s5.n : Nat) : Int) - 1))) s5.n ∧ AndL (nnC (padd s5.a (((if 0 > (IntKind.wrap .i64 (((s5.n : Nat) : Int) - 1)) then 0 else (IntKind.wrap .i64 (((s5.n : Nat) : Int) - 1))) : Int).toNat * 2))) (∃ (x11 : Int), ld w9 (padd (padd s5.a (((if 0 > (IntKind.wrap .i64 (((s5.n : Nat) : Int) - 1)) then 0 else (IntKind.wrap .i64 (((s5.n : Nat) : Int) - 1))) : Int).toNat * 2)) 1) = some (.int .i64 x11) ∧
 Br ((x11 : Int) == (IntKind.wrap .i64 x8))
 (R (.returned (.tuple #[.slice none 0 0, .int .i64 2])) w9)
 ((0 : Int) ≤ (IntKind.wrap .i64 (x4 + 1)) ∧ (IntKind.wrap .i64 (x4 + 1)) ≤ ((a0.n : Nat) : Int) ∧ Calls Tryd.prog n_ref06_Digits #[.slice (slBase a0.a (((IntKind.wrap .i64 (x4 + 1)) : Int).toNat) (a0.c) 1) (a0.n - ((IntKind.wrap .i64 (x4 + 1)) : Int).toNat) (a0.c - ((IntKind.wrap .i64 (x4 + 1)) : Int).toNat)] w9 (fun e w12 => ∃ (x13 : Int) (x14 : Int) (x15 : Int), e = .returned (.tuple #[.int .i64 x13, .int .i64 x14, .int .i64 x15]) ∧ 
 Br ((x15 : Int) != 0)
 (R (.returned (.tuple #[.slice none 0 0, .int .i64 x15])) w12)
 (Br ((x13 : Int) == 0)
 (R (.returned (.tuple #[.slice none 0 0, .int .i64 2])) w12)
 (Br (decide ((x13 : Int) > x3))
 (R (.returned (.tuple #[.slice none 0 0, .int .i64 2])) w12)
 (∀ w16 : World, w16 = w12.alloc (.cells #[.int .i64 x13, .int .i64 (IntKind.wrap .i64 x8)] 35) →
 AppPre 16 2 w16 ⟨s5.a, s5.n, s5.c⟩ 1 [.int .i64 x13, .int .i64 (IntKind.wrap .i64 x8)] ∧ ∀ (s17 : Sl) (w18 : World), AppRes 35 2 w16 ⟨s5.a, s5.n, s5.c⟩ 1 [.int .i64 x13, .int .i64 (IntKind.wrap .i64 x8)] s17 w18 → w18.heap[w12.heap.size]? = w16.heap[w12.heap.size]? ∧ 
 ∃ n7, n7 < n1 ∧ I0 n7 ((IntKind.wrap .i64 (x3 - x13))) ((IntKind.wrap .i64 ((IntKind.wrap .i64 (x4 + 1)) + x14))) ⟨s17.a, s17.n, s17.c⟩ w18)))))))
 ((0 : Int) ≤ (IntKind.wrap .i64 (x4 + 1)) ∧ (IntKind.wrap .i64 (x4 + 1)) ≤ ((a0.n : Nat) : Int) ∧ Calls Tryd.prog n_ref06_Digits #[.slice (slBase a0.a (((IntKind.wrap .i64 (x4 + 1)) : Int).toNat) (a0.c) 1) (a0.n - ((IntKind.wrap .i64 (x4 + 1)) : Int).toNat) (a0.c - ((IntKind.wrap .i64 (x4 + 1)) : Int).toNat)] w9 (fun e w19 => ∃ (x20 : Int) (x21 : Int) (x22 : Int), e = .returned (.tuple #[.int .i64 x20, .int .i64 x21, .int .i64 x22]) ∧ 
 Br ((x22 : Int) != 0)
 (R (.returned (.tuple #[.slice none 0 0, .int .i64 x22])) w19)
 (Br ((x20 : Int) == 0)
 (R (.returned (.tuple #[.slice none 0 0, .int .i64 2])) w19)
 (Br (decide ((x20 : Int) > x3))
 (R (.returned (.tuple #[.slice none 0 0, .int .i64 2])) w19)
 (∀ w23 : World, w23 = w19.alloc (.cells #[.int .i64 x20, .int .i64 (IntKind.wrap .i64 x8)] 35) →
 AppPre 16 2 w23 ⟨s5.a, s5.n, s5.c⟩ 1 [.int .i64 x20, .int .i64 (IntKind.wrap .i64 x8)] ∧ ∀ (s24 : Sl) (w25 : World), AppRes 35 2 w23 ⟨s5.a, s5.n, s5.c⟩ 1 [.int .i64 x20, .int .i64 (IntKind.wrap .i64 x8)] s24 w25 → w25.heap[w19.heap.size]? = w23.heap[w19.heap.size]? ∧ 
 ∃ n7, n7 < n1 ∧ I0 n7 ((IntKind.wrap .i64 (x3 - x20))) ((IntKind.wrap .i64 ((IntKind.wrap .i64 (x4 + 1)) + x21))) ⟨s24.a, s24.n, s24.c⟩ w25)))))))))
 (Br (decide ((x4 : Int) < ((a0.n : Nat) : Int)))
 (R (.returned (.tuple #[.slice none 0 0, .int .i64 2])) w6)
 (R (.returned (.tuple #[.slice s5.a s5.n s5.c, .int .i64 0])) w6))
theorem ref06_Read.vc {a0 a1 w} {R : Ending → World → Prop} (h : ref06_Read.pre a0 a1 w R) : Calls Tryd.prog n_ref06_Read #[.slice a0.a a0.n a0.c, .int .i64 a1] w R :=
  calls_of_eq (an := ⟨[(3, ⟨[(1, .int .i64), (7, .int .i64), (6, .slice)], [], []⟩)], [], []⟩) (args := [.slice a0.a a0.n a0.c, .int .i64 a1]) Tryd.noNG Tryd.mixed Tryd.func49 h (by kernel_rfl)

/- slices.Clone[[]breccia/api.Run,breccia/api.Run]  -/
def slices_Clone_Run.pre (a0 : Sl) (w : World) (R : Ending → World → Prop) : Prop :=
 Br (a0.a).isNone
 (R (.returned (.slice none 0 0)) w)
 (∀ w0 : World, w0 = w.alloc (.cells #[] 35) →
 ∃ l1 : List Value, Rd w0 a0.a l1 ∧ AppPre 16 2 w0 ⟨(some ⟨w.heap.size, 0, none⟩), 0, 0⟩ a0.n l1 ∧ ∀ (s2 : Sl) (w3 : World), AppRes 35 2 w0 ⟨(some ⟨w.heap.size, 0, none⟩), 0, 0⟩ a0.n l1 s2 w3 → w3.heap[w.heap.size]? = w0.heap[w.heap.size]? ∧ 
 R (.returned (.slice s2.a s2.n s2.c)) w3)
theorem slices_Clone_Run.vc {a0 w} {R : Ending → World → Prop} (h : slices_Clone_Run.pre a0 w R) : Calls Tryd.prog n_slices_Clone_Run #[.slice a0.a a0.n a0.c] w R :=
  calls_of_eq (an := ⟨[], [], []⟩) (args := [.slice a0.a a0.n a0.c]) Tryd.noNG Tryd.mixed Tryd.func50 h (by kernel_rfl)

/- breccia/block.May  -/
def block_May.pre (a0 : Int) (w : World) (R : Ending → World → Prop) : Prop :=
 Calls Tryd.prog n_block_Name #[.int .i64 a0] w (fun e w0 => ∃ (t1 : ByteArray), e = .returned (.string t1) ∧ 
 R (.returned (.bool (!strEq t1 (ByteArray.mk #[])))) w0)
theorem block_May.vc {a0 w} {R : Ending → World → Prop} (h : block_May.pre a0 w R) : Calls Tryd.prog n_block_May #[.int .i64 a0] w R :=
  calls_of_eq (an := ⟨[], [], []⟩) (args := [.int .i64 a0]) Tryd.noNG Tryd.mixed Tryd.func51 h (by kernel_rfl)

/- breccia/brecciaref04.May  -/
def ref04_May.pre (a0 : Int) (w : World) (R : Ending → World → Prop) : Prop :=
 Br (decide ((a0 : Int) ≥ 0))
 (Br (decide ((a0 : Int) ≤ 15))
 (Br ((a0 : Int) != 6)
 (R (.returned (.bool ((a0 : Int) != 7))) w)
 (R (.returned (.bool false)) w))
 (R (.returned (.bool false)) w))
 (R (.returned (.bool false)) w)
theorem ref04_May.vc {a0 w} {R : Ending → World → Prop} (h : ref04_May.pre a0 w R) : Calls Tryd.prog n_ref04_May #[.int .i64 a0] w R :=
  calls_of_eq (an := ⟨[], [], []⟩) (args := [.int .i64 a0]) Tryd.noNG Tryd.mixed Tryd.func52 h (by kernel_rfl)

/- breccia/runs.join  -/
def runs_join.pre (a0 : Sl) (w : World) (R : Ending → World → Prop) : Prop :=
 ∃ I0 : Nat → Int → Sl → World → Prop,
 (∃ n1, I0 n1 (0) ⟨none, 0, 0⟩ w) ∧
 ∀ (n1 : Nat) (us2 : Nat → Value) (x3 : Int) (s4 : Sl) (w5 : World), I0 n1 x3 s4 w5 →
 Br (decide ((x3 : Int) < ((a0.n : Nat) : Int)))
 (InB a0.a x3 a0.n ∧ ∃ (s7 : Sl), ld w5 (padd a0.a ((x3 : Int).toNat * 1)) = some (.slice s7.a s7.n s7.c) ∧
 ∃ I8 : Nat → Int → Sl → World → Prop,
 (∃ n9, I8 n9 (0) ⟨s4.a, s4.n, s4.c⟩ w5) ∧
 ∀ (n9 : Nat) (us10 : Nat → Value) (x11 : Int) (s12 : Sl) (w13 : World), I8 n9 x11 s12 w13 →
 Br (decide ((x11 : Int) < ((s7.n : Nat) : Int)))
 (InB s7.a x11 s7.n ∧ ∃ (x15 : Int) (x16 : Int), LoadL w13 (padd s7.a ((x11 : Int).toNat * 2)) 0 [.int .i64 x15, .int .i64 x16] ∧
 ∀ w17 : World, w17 = w13.alloc (.cells #[.int .i64 0, .int .i64 0] 35) →
 ∀ w18 : World, w18 = w17.setRow w13.heap.size #[.int .i64 x15, .int .i64 x16] →
 Calls Tryd.prog n_runs_push #[.slice s12.a s12.n s12.c, .agg #[.int .i64 x15, .int .i64 x16]] w18 (fun e w19 => ∃ (s20 : Sl), e = .returned (.slice s20.a s20.n s20.c) ∧ w19.heap[w13.heap.size]? = w18.heap[w13.heap.size]? ∧ 
 ∃ n14, n14 < n9 ∧ I8 n14 ((IntKind.wrap .i64 (x11 + 1))) ⟨s20.a, s20.n, s20.c⟩ w19))
 (∃ n6, n6 < n1 ∧ I0 n6 ((IntKind.wrap .i64 (x3 + 1))) ⟨s12.a, s12.n, s12.c⟩ w13))
 (R (.returned (.slice s4.a s4.n s4.c)) w5)
theorem runs_join.vc {a0 w} {R : Ending → World → Prop} (h : runs_join.pre a0 w R) : Calls Tryd.prog n_runs_join #[.slice a0.a a0.n a0.c] w R :=
  calls_of_eq (an := ⟨[(6, ⟨[(16, .int .i64), (3, .slice)], [], []⟩), (3, ⟨[(10, .int .i64), (3, .slice)], [], []⟩)], [], []⟩) (args := [.slice a0.a a0.n a0.c]) Tryd.noNG Tryd.mixed Tryd.func53 h (by kernel_rfl)

/- breccia/runs.Cut  -/
def runs_Cut.pre (a0 : Sl) (a1 : Int) (a2 : Int) (w : World) (R : Ending → World → Prop) : Prop :=
 ∃ I0 : Nat → Int → Int → Sl → World → Prop,
 (∃ n1, I0 n1 (0) (0) ⟨none, 0, 0⟩ w) ∧
 ∀ (n1 : Nat) (us2 : Nat → Value) (x3 : Int) (x4 : Int) (s5 : Sl) (w6 : World), I0 n1 x3 x4 s5 w6 →
 Br (decide ((x3 : Int) < ((a0.n : Nat) : Int)))
 (InB a0.a x3 a0.n ∧ ∃ (x8 : Int) (x9 : Int), LoadL w6 (padd a0.a ((x3 : Int).toNat * 2)) 0 [.int .i64 x8, .int .i64 x9] ∧
 ∀ w10 : World, w10 = w6.alloc (.cells #[.int .i64 0, .int .i64 0] 35) →
 ∀ w11 : World, w11 = w10.setRow w6.heap.size #[.int .i64 x8, .int .i64 x9] →
 Br (decide (((if (IntKind.wrap .i64 (x4 + x8)) < a2 then (IntKind.wrap .i64 (x4 + x8)) else a2) : Int) > (if x4 > a1 then x4 else a1)))
 (Calls Tryd.prog n_runs_push #[.slice s5.a s5.n s5.c, .agg #[.int .i64 (IntKind.wrap .i64 ((if (IntKind.wrap .i64 (x4 + x8)) < a2 then (IntKind.wrap .i64 (x4 + x8)) else a2) - (if x4 > a1 then x4 else a1))), .int .i64 x9]] w11.drew (fun e w12 => ∃ (s13 : Sl), e = .returned (.slice s13.a s13.n s13.c) ∧ w12.heap[w6.heap.size]? = w11.drew.heap[w6.heap.size]? ∧ 
 ∃ n7, n7 < n1 ∧ I0 n7 ((IntKind.wrap .i64 (x3 + 1))) ((IntKind.wrap .i64 (x4 + x8))) ⟨s13.a, s13.n, s13.c⟩ w12))
 (∃ n7, n7 < n1 ∧ I0 n7 ((IntKind.wrap .i64 (x3 + 1))) ((IntKind.wrap .i64 (x4 + x8))) ⟨s5.a, s5.n, s5.c⟩ w11.drew))
 (R (.returned (.slice s5.a s5.n s5.c)) w6)
theorem runs_Cut.vc {a0 a1 a2 w} {R : Ending → World → Prop} (h : runs_Cut.pre a0 a1 a2 w R) : Calls Tryd.prog n_runs_Cut #[.slice a0.a a0.n a0.c, .int .i64 a1, .int .i64 a2] w R :=
  calls_of_eq (an := ⟨[(4, ⟨[(15, .int .i64), (8, .int .i64), (7, .slice)], [], []⟩)], [], []⟩) (args := [.slice a0.a a0.n a0.c, .int .i64 a1, .int .i64 a2]) Tryd.noNG Tryd.mixed Tryd.func54 h (by kernel_rfl)

/- breccia/runs.push  -/
def runs_push.pre (a0 : Sl) (a1_0 : Int) (a1_1 : Int) (w : World) (R : Ending → World → Prop) : Prop :=
 ∀ w0 : World, w0 = w.alloc (.cells #[.int .i64 a1_0, .int .i64 a1_1] 35) →
 Br (decide ((a1_0 : Int) < 1))
 (R (.returned (.slice a0.a a0.n a0.c)) w0)
 (Br (decide (((IntKind.wrap .i64 (((a0.n : Nat) : Int) - 1)) : Int) ≥ 0))
 (InB a0.a (IntKind.wrap .i64 (((a0.n : Nat) : Int) - 1)) a0.n ∧ AndL (nnC (padd a0.a (((IntKind.wrap .i64 (((a0.n : Nat) : Int) - 1)) : Int).toNat * 2))) (∃ (x1 : Int), ld w0.drew (padd (padd a0.a (((IntKind.wrap .i64 (((a0.n : Nat) : Int) - 1)) : Int).toNat * 2)) 1) = some (.int .i64 x1) ∧
 Br ((x1 : Int) == a1_1)
 (InB a0.a (IntKind.wrap .i64 (((a0.n : Nat) : Int) - 1)) a0.n ∧ AndL (nnC (padd a0.a (((IntKind.wrap .i64 (((a0.n : Nat) : Int) - 1)) : Int).toNat * 2))) (∃ (x2 : Int), ld w0.drew.drew (padd (padd a0.a (((IntKind.wrap .i64 (((a0.n : Nat) : Int) - 1)) : Int).toNat * 2)) 0) = some (.int .i64 x2) ∧
 InB a0.a (IntKind.wrap .i64 (((a0.n : Nat) : Int) - 1)) a0.n ∧ AndL (nnC (padd a0.a (((IntKind.wrap .i64 (((a0.n : Nat) : Int) - 1)) : Int).toNat * 2))) ((((padd (padd a0.a (((IntKind.wrap .i64 (((a0.n : Nat) : Int) - 1)) : Int).toNat * 2)) 0)).isSome = true ∧ Wr w0.drew.drew (padd (padd a0.a (((IntKind.wrap .i64 (((a0.n : Nat) : Int) - 1)) : Int).toNat * 2)) 0) 1) ∧ pblk (padd (padd a0.a (((IntKind.wrap .i64 (((a0.n : Nat) : Int) - 1)) : Int).toNat * 2)) 0) ≠ some w.heap.size ∧ (∀ w3 : World, w3 = setP w0.drew.drew (padd (padd a0.a (((IntKind.wrap .i64 (((a0.n : Nat) : Int) - 1)) : Int).toNat * 2)) 0) [.int .i64 (IntKind.wrap .i64 (x2 + a1_0))] →
 R (.returned (.slice a0.a a0.n a0.c)) w3))))
 (∀ w4 : World, w4 = w0.drew.alloc (.cells #[.int .i64 a1_0, .int .i64 a1_1] 35) →
 AppPre 16 2 w4 ⟨a0.a, a0.n, a0.c⟩ 1 [.int .i64 a1_0, .int .i64 a1_1] ∧ ∀ (s5 : Sl) (w6 : World), AppRes 35 2 w4 ⟨a0.a, a0.n, a0.c⟩ 1 [.int .i64 a1_0, .int .i64 a1_1] s5 w6 → w6.heap[w.heap.size]? = w4.heap[w.heap.size]? ∧ w6.heap[w0.drew.heap.size]? = w4.heap[w0.drew.heap.size]? ∧ 
 R (.returned (.slice s5.a s5.n s5.c)) w6)))
 (∀ w7 : World, w7 = w0.drew.alloc (.cells #[.int .i64 a1_0, .int .i64 a1_1] 35) →
 AppPre 16 2 w7 ⟨a0.a, a0.n, a0.c⟩ 1 [.int .i64 a1_0, .int .i64 a1_1] ∧ ∀ (s8 : Sl) (w9 : World), AppRes 35 2 w7 ⟨a0.a, a0.n, a0.c⟩ 1 [.int .i64 a1_0, .int .i64 a1_1] s8 w9 → w9.heap[w.heap.size]? = w7.heap[w.heap.size]? ∧ w9.heap[w0.drew.heap.size]? = w7.heap[w0.drew.heap.size]? ∧ 
 R (.returned (.slice s8.a s8.n s8.c)) w9))
theorem runs_push.vc {a0 a1_0 a1_1 w} {R : Ending → World → Prop} (h : runs_push.pre a0 a1_0 a1_1 w R) : Calls Tryd.prog n_runs_push #[.slice a0.a a0.n a0.c, .agg #[.int .i64 a1_0, .int .i64 a1_1]] w R :=
  calls_of_eq (an := ⟨[], [], []⟩) (args := [.slice a0.a a0.n a0.c, .agg #[.int .i64 a1_0, .int .i64 a1_1]]) Tryd.noNG Tryd.mixed Tryd.func55 h (by kernel_rfl)

/- breccia/runs.All$1  -/
def runs_All_1.pre (a0 : Value) (c0 : Addr) (w : World) (R : Ending → World → Prop) : Prop :=
 ∃ (s0 : Sl), ld w (some c0) = some (.slice s0.a s0.n s0.c) ∧
 ∃ I1 : Nat → Int → Int → World → Prop,
 (∃ n2, I1 n2 (0) (0) w) ∧
 ∀ (n2 : Nat) (us3 : Nat → Value) (x4 : Int) (x5 : Int) (w6 : World), I1 n2 x4 x5 w6 →
 Br (decide ((x4 : Int) < ((s0.n : Nat) : Int)))
 (InB s0.a x4 s0.n ∧ ∃ (x8 : Int) (x9 : Int), LoadL w6 (padd s0.a ((x4 : Int).toNat * 2)) 0 [.int .i64 x8, .int .i64 x9] ∧
 ∀ w10 : World, w10 = w6.alloc (.cells #[.int .i64 0, .int .i64 0] 35) →
 ∀ w11 : World, w11 = w10.setRow w6.heap.size #[.int .i64 x8, .int .i64 x9] →
 ∃ I12 : Nat → Int → World → Prop,
 (∃ n13, ([.int .i64 x8, .int .i64 x9] : List Value) = [.int .i64 x8, .int .i64 x9] ∧ I12 n13 (0) w11) ∧
 ∀ (n13 : Nat) (us14 : Nat → Value) (x15 : Int) (w16 : World), I12 n13 x15 w16 →
 Br (decide ((x15 : Int) < x8))
 (callV Tryd.prog a0 [.int .i64 (IntKind.wrap .i64 (x5 + x15)), .int .i64 x9] w16 (fun e w18 => ∃ (b19 : Bool), e = .returned (.bool b19) ∧ w18.heap[w6.heap.size]? = w16.heap[w6.heap.size]? ∧ 
 Br (!b19)
 (R (.returned (.tuple #[])) w18)
 (∃ n17, n17 < n13 ∧ ([.int .i64 x8, .int .i64 x9] : List Value) = [.int .i64 x8, .int .i64 x9] ∧ I12 n17 ((IntKind.wrap .i64 (x15 + 1))) w18)))
 (∃ n7, n7 < n2 ∧ I1 n7 ((IntKind.wrap .i64 (x4 + 1))) ((IntKind.wrap .i64 (x5 + x8))) w16))
 (R (.returned (.tuple #[])) w6)
theorem runs_All_1.vc {a0 c0 w} {R : Ending → World → Prop} (h : runs_All_1.pre a0 c0 w R) : Calls Tryd.prog n_runs_All_1 #[a0, .pointer (some c0)] w R :=
  calls_of_eq (an := ⟨[(5, ⟨[(15, .int .i64)], [], []⟩), (2, ⟨[(9, .int .i64), (3, .int .i64)], [], []⟩)], [], []⟩) (args := [a0, .pointer (some c0)]) Tryd.noNG Tryd.mixed Tryd.func56 h (by kernel_rfl)

/- breccia/block.Name  -/
def block_Name.pre (a0 : Int) (w : World) (R : Ending → World → Prop) : Prop :=
 Br (decide ((a0 : Int) < 0))
 (R (.returned (.string (ByteArray.mk #[]))) w)
 (Br (decide ((a0 : Int) ≥ 16))
 (R (.returned (.string (ByteArray.mk #[]))) w)
 (Calls Tryd.prog n_block_names #[] w (fun e w0 => ∃ (t1 : ByteArray) (t2 : ByteArray) (t3 : ByteArray) (t4 : ByteArray) (t5 : ByteArray) (t6 : ByteArray) (t7 : ByteArray) (t8 : ByteArray) (t9 : ByteArray) (t10 : ByteArray) (t11 : ByteArray) (t12 : ByteArray) (t13 : ByteArray) (t14 : ByteArray) (t15 : ByteArray) (t16 : ByteArray), e = .returned (.agg #[.string t1, .string t2, .string t3, .string t4, .string t5, .string t6, .string t7, .string t8, .string t9, .string t10, .string t11, .string t12, .string t13, .string t14, .string t15, .string t16]) ∧ 
 ((0 : Int) ≤ a0 ∧ (a0 : Int) < ((16 : Nat) : Int)) ∧ ∃ (t17 : ByteArray), ([.string t1, .string t2, .string t3, .string t4, .string t5, .string t6, .string t7, .string t8, .string t9, .string t10, .string t11, .string t12, .string t13, .string t14, .string t15, .string t16] : List Value)[(a0 : Int).toNat * 1]? = some (.string t17) ∧
 R (.returned (.string t17)) w0)))
theorem block_Name.vc {a0 w} {R : Ending → World → Prop} (h : block_Name.pre a0 w R) : Calls Tryd.prog n_block_Name #[.int .i64 a0] w R :=
  calls_of_eq (an := ⟨[], [], []⟩) (args := [.int .i64 a0]) Tryd.noNG Tryd.mixed Tryd.func57 h (by kernel_rfl)

/- breccia/block.names  -/
def block_names.pre  (w : World) (R : Ending → World → Prop) : Prop :=
 ∀ w0 : World, w0 = w.alloc (.cells #[.string (ByteArray.mk #[]), .string (ByteArray.mk #[]), .string (ByteArray.mk #[]), .string (ByteArray.mk #[]), .string (ByteArray.mk #[]), .string (ByteArray.mk #[]), .string (ByteArray.mk #[]), .string (ByteArray.mk #[]), .string (ByteArray.mk #[]), .string (ByteArray.mk #[]), .string (ByteArray.mk #[]), .string (ByteArray.mk #[]), .string (ByteArray.mk #[]), .string (ByteArray.mk #[]), .string (ByteArray.mk #[]), .string (ByteArray.mk #[])] 73) →
 ∀ w1 : World, w1 = w0.alloc (.cells #[.string (ByteArray.mk #[]), .string (ByteArray.mk #[]), .string (ByteArray.mk #[]), .string (ByteArray.mk #[]), .string (ByteArray.mk #[]), .string (ByteArray.mk #[]), .string (ByteArray.mk #[]), .string (ByteArray.mk #[]), .string (ByteArray.mk #[]), .string (ByteArray.mk #[]), .string (ByteArray.mk #[]), .string (ByteArray.mk #[]), .string (ByteArray.mk #[]), .string (ByteArray.mk #[]), .string (ByteArray.mk #[]), .string (ByteArray.mk #[])] 73) →
 (true = true ∧ Wr w1 (some ⟨w0.heap.size, 0, none⟩) 16) ∧ (∀ w2 : World, w2 = setP w1 (some ⟨w0.heap.size, 0, none⟩) [.string (ByteArray.mk #[97, 105, 114]), .string (ByteArray.mk #[115, 116, 111, 110, 101]), .string (ByteArray.mk #[100, 105, 114, 116]), .string (ByteArray.mk #[115, 97, 110, 100]), .string (ByteArray.mk #[108, 97, 100, 100, 101, 114]), .string (ByteArray.mk #[103, 108, 97, 115, 115]), .string (ByteArray.mk #[]), .string (ByteArray.mk #[]), .string (ByteArray.mk #[]), .string (ByteArray.mk #[]), .string (ByteArray.mk #[]), .string (ByteArray.mk #[]), .string (ByteArray.mk #[]), .string (ByteArray.mk #[]), .string (ByteArray.mk #[]), .string (ByteArray.mk #[])] →
 ∃ I3 : Nat → Int → World → Prop,
 (∃ n4, I3 n4 (0) w2) ∧
 ∀ (n4 : Nat) (us5 : Nat → Value) (x6 : Int) (w7 : World), I3 n4 x6 w7 →
 Br (decide ((x6 : Int) < 8))
 (Calls Tryd.prog n_strconv_Itoa #[.int .i64 x6] w7 (fun e w9 => ∃ (t10 : ByteArray), e = .returned (.string t10) ∧ 
 ((((ByteArray.mk #[119, 97, 116, 101, 114])).size + (t10).size : Nat) : Int) ≤ IntKind.i64.max ∧ (0 : Int) ≤ (IntKind.wrap .i64 (8 + x6)) ∧ ((IntKind.wrap .i64 (8 + x6)) : Int) < ((16 : Nat) : Int) ∧ (true = true ∧ Wr w9 (padd (some ⟨w0.heap.size, 0, none⟩) (((IntKind.wrap .i64 (8 + x6)) : Int).toNat * 1)) 1) ∧ (∀ w11 : World, w11 = setP w9 (padd (some ⟨w0.heap.size, 0, none⟩) (((IntKind.wrap .i64 (8 + x6)) : Int).toNat * 1)) [.string ((ByteArray.mk #[119, 97, 116, 101, 114]) ++ t10)] →
 ∃ n8, n8 < n4 ∧ I3 n8 ((IntKind.wrap .i64 (x6 + 1))) w11)))
 (∃ (t12 : ByteArray) (t13 : ByteArray) (t14 : ByteArray) (t15 : ByteArray) (t16 : ByteArray) (t17 : ByteArray) (t18 : ByteArray) (t19 : ByteArray) (t20 : ByteArray) (t21 : ByteArray) (t22 : ByteArray) (t23 : ByteArray) (t24 : ByteArray) (t25 : ByteArray) (t26 : ByteArray) (t27 : ByteArray), LoadL w7 (some ⟨w0.heap.size, 0, none⟩) 0 [.string t12, .string t13, .string t14, .string t15, .string t16, .string t17, .string t18, .string t19, .string t20, .string t21, .string t22, .string t23, .string t24, .string t25, .string t26, .string t27] ∧
 (true = true ∧ Wr w7 (some ⟨w.heap.size, 0, none⟩) 16) ∧ (∀ w28 : World, w28 = setP w7 (some ⟨w.heap.size, 0, none⟩) [.string t12, .string t13, .string t14, .string t15, .string t16, .string t17, .string t18, .string t19, .string t20, .string t21, .string t22, .string t23, .string t24, .string t25, .string t26, .string t27] →
 ∃ (t29 : ByteArray) (t30 : ByteArray) (t31 : ByteArray) (t32 : ByteArray) (t33 : ByteArray) (t34 : ByteArray) (t35 : ByteArray) (t36 : ByteArray) (t37 : ByteArray) (t38 : ByteArray) (t39 : ByteArray) (t40 : ByteArray) (t41 : ByteArray) (t42 : ByteArray) (t43 : ByteArray) (t44 : ByteArray), LoadL w28 (some ⟨w.heap.size, 0, none⟩) 0 [.string t29, .string t30, .string t31, .string t32, .string t33, .string t34, .string t35, .string t36, .string t37, .string t38, .string t39, .string t40, .string t41, .string t42, .string t43, .string t44] ∧
 R (.returned (.agg #[.string t29, .string t30, .string t31, .string t32, .string t33, .string t34, .string t35, .string t36, .string t37, .string t38, .string t39, .string t40, .string t41, .string t42, .string t43, .string t44])) w28)))
theorem block_names.vc {w} {R : Ending → World → Prop} (h : block_names.pre  w R) : Calls Tryd.prog n_block_names #[] w R :=
  calls_of_eq (an := ⟨[(3, ⟨[(4, .int .i64)], [], []⟩)], [], []⟩) (args := []) Tryd.noNG Tryd.mixed Tryd.func58 h (by kernel_rfl)

/- strconv.Itoa  -/
def strconv_Itoa.pre (a0 : Int) (w : World) (R : Ending → World → Prop) : Prop :=
 Calls Tryd.prog n_internal_strconv_Itoa #[.int .i64 a0] w (fun e w0 => ∃ (t1 : ByteArray), e = .returned (.string t1) ∧ 
 R (.returned (.string t1)) w0)
theorem strconv_Itoa.vc {a0 w} {R : Ending → World → Prop} (h : strconv_Itoa.pre a0 w R) : Calls Tryd.prog n_strconv_Itoa #[.int .i64 a0] w R :=
  calls_of_eq (an := ⟨[], [], []⟩) (args := [.int .i64 a0]) Tryd.noNG Tryd.mixed Tryd.func59 h (by kernel_rfl)

/- internal/strconv.Itoa  -/
def internal_strconv_Itoa.pre (a0 : Int) (w : World) (R : Ending → World → Prop) : Prop :=
 Calls Tryd.prog n_internal_strconv_FormatInt #[.int .i64 a0, .int .i64 10] w (fun e w0 => ∃ (t1 : ByteArray), e = .returned (.string t1) ∧ 
 R (.returned (.string t1)) w0)
theorem internal_strconv_Itoa.vc {a0 w} {R : Ending → World → Prop} (h : internal_strconv_Itoa.pre a0 w R) : Calls Tryd.prog n_internal_strconv_Itoa #[.int .i64 a0] w R :=
  calls_of_eq (an := ⟨[], [], []⟩) (args := [.int .i64 a0]) Tryd.noNG Tryd.mixed Tryd.func60 h (by kernel_rfl)

/- internal/strconv.FormatInt UNSUPPORTED: bad itoa.go:40 -/
def internal_strconv_FormatInt.pre (a0 : Int) (a1 : Int) (w : World) (R : Ending → World → Prop) : Prop :=
 Br ((a1 : Int) == 10)
 (Br (decide ((0 : Int) ≤ a0))
 (Br (decide ((a0 : Int) < 100))
 (Calls Tryd.prog n_internal_strconv_small #[.int .i64 a0] w (fun e w0 => ∃ (t1 : ByteArray), e = .returned (.string t1) ∧ 
 R (.returned (.string t1)) w0))
 (∀ w2 : World, w2 = w.alloc (.cells #[.int .u8 0, .int .u8 0, .int .u8 0, .int .u8 0, .int .u8 0, .int .u8 0, .int .u8 0, .int .u8 0, .int .u8 0, .int .u8 0, .int .u8 0, .int .u8 0, .int .u8 0, .int .u8 0, .int .u8 0, .int .u8 0, .int .u8 0, .int .u8 0, .int .u8 0, .int .u8 0, .int .u8 0, .int .u8 0, .int .u8 0, .int .u8 0] 76) →
 Br (decide ((a0 : Int) < 0))
 (Calls Tryd.prog n_internal_strconv_numDigits #[.int .u64 (IntKind.wrap .u64 (0 - (IntKind.wrap .u64 a0)))] w2 (fun e w3 => ∃ (x4 : Int), e = .returned (.int .i64 x4) ∧ 
 False))
 (Calls Tryd.prog n_internal_strconv_numDigits #[.int .u64 (IntKind.wrap .u64 a0)] w2 (fun e w5 => ∃ (x6 : Int), e = .returned (.int .i64 x6) ∧ 
 False))))
 (∀ w7 : World, w7 = w.alloc (.cells #[.int .u8 0, .int .u8 0, .int .u8 0, .int .u8 0, .int .u8 0, .int .u8 0, .int .u8 0, .int .u8 0, .int .u8 0, .int .u8 0, .int .u8 0, .int .u8 0, .int .u8 0, .int .u8 0, .int .u8 0, .int .u8 0, .int .u8 0, .int .u8 0, .int .u8 0, .int .u8 0, .int .u8 0, .int .u8 0, .int .u8 0, .int .u8 0] 76) →
 Br (decide ((a0 : Int) < 0))
 (Calls Tryd.prog n_internal_strconv_numDigits #[.int .u64 (IntKind.wrap .u64 (0 - (IntKind.wrap .u64 a0)))] w7 (fun e w8 => ∃ (x9 : Int), e = .returned (.int .i64 x9) ∧ 
 False))
 (Calls Tryd.prog n_internal_strconv_numDigits #[.int .u64 (IntKind.wrap .u64 a0)] w7 (fun e w10 => ∃ (x11 : Int), e = .returned (.int .i64 x11) ∧ 
 False))))
 (Calls Tryd.prog n_internal_strconv_formatBits #[.slice none 0 0, .int .u64 (IntKind.wrap .u64 a0), .int .i64 a1, .bool (decide ((a0 : Int) < 0)), .bool false] w (fun e w12 => ∃ (s13 : Sl) (t14 : ByteArray), e = .returned (.tuple #[.slice s13.a s13.n s13.c, .string t14]) ∧ 
 R (.returned (.string t14)) w12))
theorem internal_strconv_FormatInt.vc {a0 a1 w} {R : Ending → World → Prop} (h : internal_strconv_FormatInt.pre a0 a1 w R) : Calls Tryd.prog n_internal_strconv_FormatInt #[.int .i64 a0, .int .i64 a1] w R :=
  calls_of_eq (an := ⟨[], [], []⟩) (args := [.int .i64 a0, .int .i64 a1]) Tryd.noNG Tryd.mixed Tryd.func61 h (by kernel_rfl)

/- internal/strconv.small  -/
def internal_strconv_small.pre (a0 : Int) (w : World) (R : Ending → World → Prop) : Prop :=
 Br (decide ((a0 : Int) < 10))
 ((0 : Int) ≤ (IntKind.wrap .i64 (a0 + 1)) ∧ (IntKind.wrap .i64 (a0 + 1)) ≤ ((((ByteArray.mk #[48, 49, 50, 51, 52, 53, 54, 55, 56, 57, 97, 98, 99, 100, 101, 102, 103, 104, 105, 106, 107, 108, 109, 110, 111, 112, 113, 114, 115, 116, 117, 118, 119, 120, 121, 122])).size : Nat) : Int) ∧ (0 : Int) ≤ a0 ∧ (a0 : Int) ≤ (IntKind.wrap .i64 (a0 + 1)) ∧ R (.returned (.string (((ByteArray.mk #[48, 49, 50, 51, 52, 53, 54, 55, 56, 57, 97, 98, 99, 100, 101, 102, 103, 104, 105, 106, 107, 108, 109, 110, 111, 112, 113, 114, 115, 116, 117, 118, 119, 120, 121, 122])).extract ((a0 : Int).toNat) (((IntKind.wrap .i64 (a0 + 1)) : Int).toNat)))) w)
 ((0 : Int) ≤ (IntKind.wrap .i64 ((IntKind.wrap .i64 (a0 * 2)) + 2)) ∧ (IntKind.wrap .i64 ((IntKind.wrap .i64 (a0 * 2)) + 2)) ≤ ((((ByteArray.mk #[48, 48, 48, 49, 48, 50, 48, 51, 48, 52, 48, 53, 48, 54, 48, 55, 48, 56, 48, 57, 49, 48, 49, 49, 49, 50, 49, 51, 49, 52, 49, 53, 49, 54, 49, 55, 49, 56, 49, 57, 50, 48, 50, 49, 50, 50, 50, 51, 50, 52, 50, 53, 50, 54, 50, 55, 50, 56, 50, 57, 51, 48, 51, 49, 51, 50, 51, 51, 51, 52, 51, 53, 51, 54, 51, 55, 51, 56, 51, 57, 52, 48, 52, 49, 52, 50, 52, 51, 52, 52, 52, 53, 52, 54, 52, 55, 52, 56, 52, 57, 53, 48, 53, 49, 53, 50, 53, 51, 53, 52, 53, 53, 53, 54, 53, 55, 53, 56, 53, 57, 54, 48, 54, 49, 54, 50, 54, 51, 54, 52, 54, 53, 54, 54, 54, 55, 54, 56, 54, 57, 55, 48, 55, 49, 55, 50, 55, 51, 55, 52, 55, 53, 55, 54, 55, 55, 55, 56, 55, 57, 56, 48, 56, 49, 56, 50, 56, 51, 56, 52, 56, 53, 56, 54, 56, 55, 56, 56, 56, 57, 57, 48, 57, 49, 57, 50, 57, 51, 57, 52, 57, 53, 57, 54, 57, 55, 57, 56, 57, 57])).size : Nat) : Int) ∧ (0 : Int) ≤ (IntKind.wrap .i64 (a0 * 2)) ∧ ((IntKind.wrap .i64 (a0 * 2)) : Int) ≤ (IntKind.wrap .i64 ((IntKind.wrap .i64 (a0 * 2)) + 2)) ∧ R (.returned (.string (((ByteArray.mk #[48, 48, 48, 49, 48, 50, 48, 51, 48, 52, 48, 53, 48, 54, 48, 55, 48, 56, 48, 57, 49, 48, 49, 49, 49, 50, 49, 51, 49, 52, 49, 53, 49, 54, 49, 55, 49, 56, 49, 57, 50, 48, 50, 49, 50, 50, 50, 51, 50, 52, 50, 53, 50, 54, 50, 55, 50, 56, 50, 57, 51, 48, 51, 49, 51, 50, 51, 51, 51, 52, 51, 53, 51, 54, 51, 55, 51, 56, 51, 57, 52, 48, 52, 49, 52, 50, 52, 51, 52, 52, 52, 53, 52, 54, 52, 55, 52, 56, 52, 57, 53, 48, 53, 49, 53, 50, 53, 51, 53, 52, 53, 53, 53, 54, 53, 55, 53, 56, 53, 57, 54, 48, 54, 49, 54, 50, 54, 51, 54, 52, 54, 53, 54, 54, 54, 55, 54, 56, 54, 57, 55, 48, 55, 49, 55, 50, 55, 51, 55, 52, 55, 53, 55, 54, 55, 55, 55, 56, 55, 57, 56, 48, 56, 49, 56, 50, 56, 51, 56, 52, 56, 53, 56, 54, 56, 55, 56, 56, 56, 57, 57, 48, 57, 49, 57, 50, 57, 51, 57, 52, 57, 53, 57, 54, 57, 55, 57, 56, 57, 57])).extract (((IntKind.wrap .i64 (a0 * 2)) : Int).toNat) (((IntKind.wrap .i64 ((IntKind.wrap .i64 (a0 * 2)) + 2)) : Int).toNat)))) w)
theorem internal_strconv_small.vc {a0 w} {R : Ending → World → Prop} (h : internal_strconv_small.pre a0 w R) : Calls Tryd.prog n_internal_strconv_small #[.int .i64 a0] w R :=
  calls_of_eq (an := ⟨[], [], []⟩) (args := [.int .i64 a0]) Tryd.noNG Tryd.mixed Tryd.func62 h (by kernel_rfl)

/- internal/strconv.numDigits  -/
def internal_strconv_numDigits.pre (a0 : Int) (w : World) (R : Ending → World → Prop) : Prop :=
 Calls Tryd.prog n_math_bits_Len64 #[.int .u64 a0] w (fun e w0 => ∃ (x1 : Int), e = .returned (.int .i64 x1) ∧ 
 Calls Tryd.prog n_internal_strconv_log10Pow2 #[.int .i64 x1] w0 (fun e w2 => ∃ (x3 : Int), e = .returned (.int .i64 x3) ∧ 
 (0 : Int) ≤ x3 ∧ (x3 : Int) < ((20 : Nat) : Int) ∧ ∃ (x4 : Int), ld w2 (padd (some ⟨0, 0, none⟩) ((x3 : Int).toNat * 1)) = some (.int .u64 x4) ∧
 Calls Tryd.prog n_internal_strconv_bool2_int #[.bool (decide ((a0 : Int) ≥ x4))] w2 (fun e w5 => ∃ (x6 : Int), e = .returned (.int .i64 x6) ∧ 
 R (.returned (.int .i64 (IntKind.wrap .i64 (x3 + x6)))) w5)))
theorem internal_strconv_numDigits.vc {a0 w} {R : Ending → World → Prop} (h : internal_strconv_numDigits.pre a0 w R) : Calls Tryd.prog n_internal_strconv_numDigits #[.int .u64 a0] w R :=
  calls_of_eq (an := ⟨[], [], []⟩) (args := [.int .u64 a0]) Tryd.noNG Tryd.mixed Tryd.func63 h (by kernel_rfl)

/- internal/strconv.formatBase10  -/
def internal_strconv_formatBase10.pre (a0 : Sl) (a1 : Int) (w : World) (R : Ending → World → Prop) : Prop :=
 ∃ I0 : Nat → Int → Int → World → Prop,
 (∃ n1, I0 n1 (((a0.n : Nat) : Int)) (a1) w) ∧
 ∀ (n1 : Nat) (us2 : Nat → Value) (x3 : Int) (x4 : Int) (w5 : World), I0 n1 x3 x4 w5 →
 Br (decide ((x3 : Int) ≥ 8))
 ((0 : Int) ≤ (IntKind.wrap .u32 ((IntKind.wrap .u32 ((Int.tmod (Int.tmod (IntKind.wrap .u32 (Int.tmod x4 100000000)) 10000) 100) * 2)) + 1)) ∧ (IntKind.wrap .u32 ((IntKind.wrap .u32 ((Int.tmod (Int.tmod (IntKind.wrap .u32 (Int.tmod x4 100000000)) 10000) 100) * 2)) + 1)) < ((((ByteArray.mk #[48, 48, 48, 49, 48, 50, 48, 51, 48, 52, 48, 53, 48, 54, 48, 55, 48, 56, 48, 57, 49, 48, 49, 49, 49, 50, 49, 51, 49, 52, 49, 53, 49, 54, 49, 55, 49, 56, 49, 57, 50, 48, 50, 49, 50, 50, 50, 51, 50, 52, 50, 53, 50, 54, 50, 55, 50, 56, 50, 57, 51, 48, 51, 49, 51, 50, 51, 51, 51, 52, 51, 53, 51, 54, 51, 55, 51, 56, 51, 57, 52, 48, 52, 49, 52, 50, 52, 51, 52, 52, 52, 53, 52, 54, 52, 55, 52, 56, 52, 57, 53, 48, 53, 49, 53, 50, 53, 51, 53, 52, 53, 53, 53, 54, 53, 55, 53, 56, 53, 57, 54, 48, 54, 49, 54, 50, 54, 51, 54, 52, 54, 53, 54, 54, 54, 55, 54, 56, 54, 57, 55, 48, 55, 49, 55, 50, 55, 51, 55, 52, 55, 53, 55, 54, 55, 55, 55, 56, 55, 57, 56, 48, 56, 49, 56, 50, 56, 51, 56, 52, 56, 53, 56, 54, 56, 55, 56, 56, 56, 57, 57, 48, 57, 49, 57, 50, 57, 51, 57, 52, 57, 53, 57, 54, 57, 55, 57, 56, 57, 57])).size : Nat) : Int) ∧ (0 : Int) ≤ (IntKind.wrap .u32 ((Int.tmod (Int.tmod (IntKind.wrap .u32 (Int.tmod x4 100000000)) 10000) 100) * 2)) ∧ (IntKind.wrap .u32 ((Int.tmod (Int.tmod (IntKind.wrap .u32 (Int.tmod x4 100000000)) 10000) 100) * 2)) < ((((ByteArray.mk #[48, 48, 48, 49, 48, 50, 48, 51, 48, 52, 48, 53, 48, 54, 48, 55, 48, 56, 48, 57, 49, 48, 49, 49, 49, 50, 49, 51, 49, 52, 49, 53, 49, 54, 49, 55, 49, 56, 49, 57, 50, 48, 50, 49, 50, 50, 50, 51, 50, 52, 50, 53, 50, 54, 50, 55, 50, 56, 50, 57, 51, 48, 51, 49, 51, 50, 51, 51, 51, 52, 51, 53, 51, 54, 51, 55, 51, 56, 51, 57, 52, 48, 52, 49, 52, 50, 52, 51, 52, 52, 52, 53, 52, 54, 52, 55, 52, 56, 52, 57, 53, 48, 53, 49, 53, 50, 53, 51, 53, 52, 53, 53, 53, 54, 53, 55, 53, 56, 53, 57, 54, 48, 54, 49, 54, 50, 54, 51, 54, 52, 54, 53, 54, 54, 54, 55, 54, 56, 54, 57, 55, 48, 55, 49, 55, 50, 55, 51, 55, 52, 55, 53, 55, 54, 55, 55, 55, 56, 55, 57, 56, 48, 56, 49, 56, 50, 56, 51, 56, 52, 56, 53, 56, 54, 56, 55, 56, 56, 56, 57, 57, 48, 57, 49, 57, 50, 57, 51, 57, 52, 57, 53, 57, 54, 57, 55, 57, 56, 57, 57])).size : Nat) : Int) ∧ InB a0.a (IntKind.wrap .i64 (x3 - 1)) a0.n ∧ (((padd a0.a (((IntKind.wrap .i64 (x3 - 1)) : Int).toNat * 1))).isSome = true ∧ Wr w5.drew (padd a0.a (((IntKind.wrap .i64 (x3 - 1)) : Int).toNat * 1)) 1) ∧ (∀ w7 : World, w7 = setP w5.drew (padd a0.a (((IntKind.wrap .i64 (x3 - 1)) : Int).toNat * 1)) [.int .u8 ((((ByteArray.mk #[48, 48, 48, 49, 48, 50, 48, 51, 48, 52, 48, 53, 48, 54, 48, 55, 48, 56, 48, 57, 49, 48, 49, 49, 49, 50, 49, 51, 49, 52, 49, 53, 49, 54, 49, 55, 49, 56, 49, 57, 50, 48, 50, 49, 50, 50, 50, 51, 50, 52, 50, 53, 50, 54, 50, 55, 50, 56, 50, 57, 51, 48, 51, 49, 51, 50, 51, 51, 51, 52, 51, 53, 51, 54, 51, 55, 51, 56, 51, 57, 52, 48, 52, 49, 52, 50, 52, 51, 52, 52, 52, 53, 52, 54, 52, 55, 52, 56, 52, 57, 53, 48, 53, 49, 53, 50, 53, 51, 53, 52, 53, 53, 53, 54, 53, 55, 53, 56, 53, 57, 54, 48, 54, 49, 54, 50, 54, 51, 54, 52, 54, 53, 54, 54, 54, 55, 54, 56, 54, 57, 55, 48, 55, 49, 55, 50, 55, 51, 55, 52, 55, 53, 55, 54, 55, 55, 55, 56, 55, 57, 56, 48, 56, 49, 56, 50, 56, 51, 56, 52, 56, 53, 56, 54, 56, 55, 56, 56, 56, 57, 57, 48, 57, 49, 57, 50, 57, 51, 57, 52, 57, 53, 57, 54, 57, 55, 57, 56, 57, 57])).data.toList.getD ((IntKind.wrap .u32 ((IntKind.wrap .u32 ((Int.tmod (Int.tmod (IntKind.wrap .u32 (Int.tmod x4 100000000)) 10000) 100) * 2)) + 1)) : Int).toNat 0).toNat : Nat)] →
 InB a0.a (IntKind.wrap .i64 (x3 - 2)) a0.n ∧ (((padd a0.a (((IntKind.wrap .i64 (x3 - 2)) : Int).toNat * 1))).isSome = true ∧ Wr w7 (padd a0.a (((IntKind.wrap .i64 (x3 - 2)) : Int).toNat * 1)) 1) ∧ (∀ w8 : World, w8 = setP w7 (padd a0.a (((IntKind.wrap .i64 (x3 - 2)) : Int).toNat * 1)) [.int .u8 ((((ByteArray.mk #[48, 48, 48, 49, 48, 50, 48, 51, 48, 52, 48, 53, 48, 54, 48, 55, 48, 56, 48, 57, 49, 48, 49, 49, 49, 50, 49, 51, 49, 52, 49, 53, 49, 54, 49, 55, 49, 56, 49, 57, 50, 48, 50, 49, 50, 50, 50, 51, 50, 52, 50, 53, 50, 54, 50, 55, 50, 56, 50, 57, 51, 48, 51, 49, 51, 50, 51, 51, 51, 52, 51, 53, 51, 54, 51, 55, 51, 56, 51, 57, 52, 48, 52, 49, 52, 50, 52, 51, 52, 52, 52, 53, 52, 54, 52, 55, 52, 56, 52, 57, 53, 48, 53, 49, 53, 50, 53, 51, 53, 52, 53, 53, 53, 54, 53, 55, 53, 56, 53, 57, 54, 48, 54, 49, 54, 50, 54, 51, 54, 52, 54, 53, 54, 54, 54, 55, 54, 56, 54, 57, 55, 48, 55, 49, 55, 50, 55, 51, 55, 52, 55, 53, 55, 54, 55, 55, 55, 56, 55, 57, 56, 48, 56, 49, 56, 50, 56, 51, 56, 52, 56, 53, 56, 54, 56, 55, 56, 56, 56, 57, 57, 48, 57, 49, 57, 50, 57, 51, 57, 52, 57, 53, 57, 54, 57, 55, 57, 56, 57, 57])).data.toList.getD ((IntKind.wrap .u32 ((Int.tmod (Int.tmod (IntKind.wrap .u32 (Int.tmod x4 100000000)) 10000) 100) * 2)) : Int).toNat 0).toNat : Nat)] →
 (0 : Int) ≤ (IntKind.wrap .u32 ((IntKind.wrap .u32 ((IntKind.wrap .u32 (Int.tdiv (Int.tmod (IntKind.wrap .u32 (Int.tmod x4 100000000)) 10000) 100)) * 2)) + 1)) ∧ (IntKind.wrap .u32 ((IntKind.wrap .u32 ((IntKind.wrap .u32 (Int.tdiv (Int.tmod (IntKind.wrap .u32 (Int.tmod x4 100000000)) 10000) 100)) * 2)) + 1)) < ((((ByteArray.mk #[48, 48, 48, 49, 48, 50, 48, 51, 48, 52, 48, 53, 48, 54, 48, 55, 48, 56, 48, 57, 49, 48, 49, 49, 49, 50, 49, 51, 49, 52, 49, 53, 49, 54, 49, 55, 49, 56, 49, 57, 50, 48, 50, 49, 50, 50, 50, 51, 50, 52, 50, 53, 50, 54, 50, 55, 50, 56, 50, 57, 51, 48, 51, 49, 51, 50, 51, 51, 51, 52, 51, 53, 51, 54, 51, 55, 51, 56, 51, 57, 52, 48, 52, 49, 52, 50, 52, 51, 52, 52, 52, 53, 52, 54, 52, 55, 52, 56, 52, 57, 53, 48, 53, 49, 53, 50, 53, 51, 53, 52, 53, 53, 53, 54, 53, 55, 53, 56, 53, 57, 54, 48, 54, 49, 54, 50, 54, 51, 54, 52, 54, 53, 54, 54, 54, 55, 54, 56, 54, 57, 55, 48, 55, 49, 55, 50, 55, 51, 55, 52, 55, 53, 55, 54, 55, 55, 55, 56, 55, 57, 56, 48, 56, 49, 56, 50, 56, 51, 56, 52, 56, 53, 56, 54, 56, 55, 56, 56, 56, 57, 57, 48, 57, 49, 57, 50, 57, 51, 57, 52, 57, 53, 57, 54, 57, 55, 57, 56, 57, 57])).size : Nat) : Int) ∧ (0 : Int) ≤ (IntKind.wrap .u32 ((IntKind.wrap .u32 (Int.tdiv (Int.tmod (IntKind.wrap .u32 (Int.tmod x4 100000000)) 10000) 100)) * 2)) ∧ (IntKind.wrap .u32 ((IntKind.wrap .u32 (Int.tdiv (Int.tmod (IntKind.wrap .u32 (Int.tmod x4 100000000)) 10000) 100)) * 2)) < ((((ByteArray.mk #[48, 48, 48, 49, 48, 50, 48, 51, 48, 52, 48, 53, 48, 54, 48, 55, 48, 56, 48, 57, 49, 48, 49, 49, 49, 50, 49, 51, 49, 52, 49, 53, 49, 54, 49, 55, 49, 56, 49, 57, 50, 48, 50, 49, 50, 50, 50, 51, 50, 52, 50, 53, 50, 54, 50, 55, 50, 56, 50, 57, 51, 48, 51, 49, 51, 50, 51, 51, 51, 52, 51, 53, 51, 54, 51, 55, 51, 56, 51, 57, 52, 48, 52, 49, 52, 50, 52, 51, 52, 52, 52, 53, 52, 54, 52, 55, 52, 56, 52, 57, 53, 48, 53, 49, 53, 50, 53, 51, 53, 52, 53, 53, 53, 54, 53, 55, 53, 56, 53, 57, 54, 48, 54, 49, 54, 50, 54, 51, 54, 52, 54, 53, 54, 54, 54, 55, 54, 56, 54, 57, 55, 48, 55, 49, 55, 50, 55, 51, 55, 52, 55, 53, 55, 54, 55, 55, 55, 56, 55, 57, 56, 48, 56, 49, 56, 50, 56, 51, 56, 52, 56, 53, 56, 54, 56, 55, 56, 56, 56, 57, 57, 48, 57, 49, 57, 50, 57, 51, 57, 52, 57, 53, 57, 54, 57, 55, 57, 56, 57, 57])).size : Nat) : Int) ∧ InB a0.a (IntKind.wrap .i64 (x3 - 3)) a0.n ∧ (((padd a0.a (((IntKind.wrap .i64 (x3 - 3)) : Int).toNat * 1))).isSome = true ∧ Wr w8.drew (padd a0.a (((IntKind.wrap .i64 (x3 - 3)) : Int).toNat * 1)) 1) ∧ (∀ w9 : World, w9 = setP w8.drew (padd a0.a (((IntKind.wrap .i64 (x3 - 3)) : Int).toNat * 1)) [.int .u8 ((((ByteArray.mk #[48, 48, 48, 49, 48, 50, 48, 51, 48, 52, 48, 53, 48, 54, 48, 55, 48, 56, 48, 57, 49, 48, 49, 49, 49, 50, 49, 51, 49, 52, 49, 53, 49, 54, 49, 55, 49, 56, 49, 57, 50, 48, 50, 49, 50, 50, 50, 51, 50, 52, 50, 53, 50, 54, 50, 55, 50, 56, 50, 57, 51, 48, 51, 49, 51, 50, 51, 51, 51, 52, 51, 53, 51, 54, 51, 55, 51, 56, 51, 57, 52, 48, 52, 49, 52, 50, 52, 51, 52, 52, 52, 53, 52, 54, 52, 55, 52, 56, 52, 57, 53, 48, 53, 49, 53, 50, 53, 51, 53, 52, 53, 53, 53, 54, 53, 55, 53, 56, 53, 57, 54, 48, 54, 49, 54, 50, 54, 51, 54, 52, 54, 53, 54, 54, 54, 55, 54, 56, 54, 57, 55, 48, 55, 49, 55, 50, 55, 51, 55, 52, 55, 53, 55, 54, 55, 55, 55, 56, 55, 57, 56, 48, 56, 49, 56, 50, 56, 51, 56, 52, 56, 53, 56, 54, 56, 55, 56, 56, 56, 57, 57, 48, 57, 49, 57, 50, 57, 51, 57, 52, 57, 53, 57, 54, 57, 55, 57, 56, 57, 57])).data.toList.getD ((IntKind.wrap .u32 ((IntKind.wrap .u32 ((IntKind.wrap .u32 (Int.tdiv (Int.tmod (IntKind.wrap .u32 (Int.tmod x4 100000000)) 10000) 100)) * 2)) + 1)) : Int).toNat 0).toNat : Nat)] →
 InB a0.a (IntKind.wrap .i64 (x3 - 4)) a0.n ∧ (((padd a0.a (((IntKind.wrap .i64 (x3 - 4)) : Int).toNat * 1))).isSome = true ∧ Wr w9 (padd a0.a (((IntKind.wrap .i64 (x3 - 4)) : Int).toNat * 1)) 1) ∧ (∀ w10 : World, w10 = setP w9 (padd a0.a (((IntKind.wrap .i64 (x3 - 4)) : Int).toNat * 1)) [.int .u8 ((((ByteArray.mk #[48, 48, 48, 49, 48, 50, 48, 51, 48, 52, 48, 53, 48, 54, 48, 55, 48, 56, 48, 57, 49, 48, 49, 49, 49, 50, 49, 51, 49, 52, 49, 53, 49, 54, 49, 55, 49, 56, 49, 57, 50, 48, 50, 49, 50, 50, 50, 51, 50, 52, 50, 53, 50, 54, 50, 55, 50, 56, 50, 57, 51, 48, 51, 49, 51, 50, 51, 51, 51, 52, 51, 53, 51, 54, 51, 55, 51, 56, 51, 57, 52, 48, 52, 49, 52, 50, 52, 51, 52, 52, 52, 53, 52, 54, 52, 55, 52, 56, 52, 57, 53, 48, 53, 49, 53, 50, 53, 51, 53, 52, 53, 53, 53, 54, 53, 55, 53, 56, 53, 57, 54, 48, 54, 49, 54, 50, 54, 51, 54, 52, 54, 53, 54, 54, 54, 55, 54, 56, 54, 57, 55, 48, 55, 49, 55, 50, 55, 51, 55, 52, 55, 53, 55, 54, 55, 55, 55, 56, 55, 57, 56, 48, 56, 49, 56, 50, 56, 51, 56, 52, 56, 53, 56, 54, 56, 55, 56, 56, 56, 57, 57, 48, 57, 49, 57, 50, 57, 51, 57, 52, 57, 53, 57, 54, 57, 55, 57, 56, 57, 57])).data.toList.getD ((IntKind.wrap .u32 ((IntKind.wrap .u32 (Int.tdiv (Int.tmod (IntKind.wrap .u32 (Int.tmod x4 100000000)) 10000) 100)) * 2)) : Int).toNat 0).toNat : Nat)] →
 (0 : Int) ≤ (IntKind.wrap .u32 ((IntKind.wrap .u32 ((Int.tmod (IntKind.wrap .u32 (Int.tdiv (IntKind.wrap .u32 (Int.tmod x4 100000000)) 10000)) 100) * 2)) + 1)) ∧ (IntKind.wrap .u32 ((IntKind.wrap .u32 ((Int.tmod (IntKind.wrap .u32 (Int.tdiv (IntKind.wrap .u32 (Int.tmod x4 100000000)) 10000)) 100) * 2)) + 1)) < ((((ByteArray.mk #[48, 48, 48, 49, 48, 50, 48, 51, 48, 52, 48, 53, 48, 54, 48, 55, 48, 56, 48, 57, 49, 48, 49, 49, 49, 50, 49, 51, 49, 52, 49, 53, 49, 54, 49, 55, 49, 56, 49, 57, 50, 48, 50, 49, 50, 50, 50, 51, 50, 52, 50, 53, 50, 54, 50, 55, 50, 56, 50, 57, 51, 48, 51, 49, 51, 50, 51, 51, 51, 52, 51, 53, 51, 54, 51, 55, 51, 56, 51, 57, 52, 48, 52, 49, 52, 50, 52, 51, 52, 52, 52, 53, 52, 54, 52, 55, 52, 56, 52, 57, 53, 48, 53, 49, 53, 50, 53, 51, 53, 52, 53, 53, 53, 54, 53, 55, 53, 56, 53, 57, 54, 48, 54, 49, 54, 50, 54, 51, 54, 52, 54, 53, 54, 54, 54, 55, 54, 56, 54, 57, 55, 48, 55, 49, 55, 50, 55, 51, 55, 52, 55, 53, 55, 54, 55, 55, 55, 56, 55, 57, 56, 48, 56, 49, 56, 50, 56, 51, 56, 52, 56, 53, 56, 54, 56, 55, 56, 56, 56, 57, 57, 48, 57, 49, 57, 50, 57, 51, 57, 52, 57, 53, 57, 54, 57, 55, 57, 56, 57, 57])).size : Nat) : Int) ∧ (0 : Int) ≤ (IntKind.wrap .u32 ((Int.tmod (IntKind.wrap .u32 (Int.tdiv (IntKind.wrap .u32 (Int.tmod x4 100000000)) 10000)) 100) * 2)) ∧ (IntKind.wrap .u32 ((Int.tmod (IntKind.wrap .u32 (Int.tdiv (IntKind.wrap .u32 (Int.tmod x4 100000000)) 10000)) 100) * 2)) < ((((ByteArray.mk #[48, 48, 48, 49, 48, 50, 48, 51, 48, 52, 48, 53, 48, 54, 48, 55, 48, 56, 48, 57, 49, 48, 49, 49, 49, 50, 49, 51, 49, 52, 49, 53, 49, 54, 49, 55, 49, 56, 49, 57, 50, 48, 50, 49, 50, 50, 50, 51, 50, 52, 50, 53, 50, 54, 50, 55, 50, 56, 50, 57, 51, 48, 51, 49, 51, 50, 51, 51, 51, 52, 51, 53, 51, 54, 51, 55, 51, 56, 51, 57, 52, 48, 52, 49, 52, 50, 52, 51, 52, 52, 52, 53, 52, 54, 52, 55, 52, 56, 52, 57, 53, 48, 53, 49, 53, 50, 53, 51, 53, 52, 53, 53, 53, 54, 53, 55, 53, 56, 53, 57, 54, 48, 54, 49, 54, 50, 54, 51, 54, 52, 54, 53, 54, 54, 54, 55, 54, 56, 54, 57, 55, 48, 55, 49, 55, 50, 55, 51, 55, 52, 55, 53, 55, 54, 55, 55, 55, 56, 55, 57, 56, 48, 56, 49, 56, 50, 56, 51, 56, 52, 56, 53, 56, 54, 56, 55, 56, 56, 56, 57, 57, 48, 57, 49, 57, 50, 57, 51, 57, 52, 57, 53, 57, 54, 57, 55, 57, 56, 57, 57])).size : Nat) : Int) ∧ InB a0.a (IntKind.wrap .i64 (x3 - 5)) a0.n ∧ (((padd a0.a (((IntKind.wrap .i64 (x3 - 5)) : Int).toNat * 1))).isSome = true ∧ Wr w10.drew (padd a0.a (((IntKind.wrap .i64 (x3 - 5)) : Int).toNat * 1)) 1) ∧ (∀ w11 : World, w11 = setP w10.drew (padd a0.a (((IntKind.wrap .i64 (x3 - 5)) : Int).toNat * 1)) [.int .u8 ((((ByteArray.mk #[48, 48, 48, 49, 48, 50, 48, 51, 48, 52, 48, 53, 48, 54, 48, 55, 48, 56, 48, 57, 49, 48, 49, 49, 49, 50, 49, 51, 49, 52, 49, 53, 49, 54, 49, 55, 49, 56, 49, 57, 50, 48, 50, 49, 50, 50, 50, 51, 50, 52, 50, 53, 50, 54, 50, 55, 50, 56, 50, 57, 51, 48, 51, 49, 51, 50, 51, 51, 51, 52, 51, 53, 51, 54, 51, 55, 51, 56, 51, 57, 52, 48, 52, 49, 52, 50, 52, 51, 52, 52, 52, 53, 52, 54, 52, 55, 52, 56, 52, 57, 53, 48, 53, 49, 53, 50, 53, 51, 53, 52, 53, 53, 53, 54, 53, 55, 53, 56, 53, 57, 54, 48, 54, 49, 54, 50, 54, 51, 54, 52, 54, 53, 54, 54, 54, 55, 54, 56, 54, 57, 55, 48, 55, 49, 55, 50, 55, 51, 55, 52, 55, 53, 55, 54, 55, 55, 55, 56, 55, 57, 56, 48, 56, 49, 56, 50, 56, 51, 56, 52, 56, 53, 56, 54, 56, 55, 56, 56, 56, 57, 57, 48, 57, 49, 57, 50, 57, 51, 57, 52, 57, 53, 57, 54, 57, 55, 57, 56, 57, 57])).data.toList.getD ((IntKind.wrap .u32 ((IntKind.wrap .u32 ((Int.tmod (IntKind.wrap .u32 (Int.tdiv (IntKind.wrap .u32 (Int.tmod x4 100000000)) 10000)) 100) * 2)) + 1)) : Int).toNat 0).toNat : Nat)] →
 InB a0.a (IntKind.wrap .i64 (x3 - 6)) a0.n ∧ (((padd a0.a (((IntKind.wrap .i64 (x3 - 6)) : Int).toNat * 1))).isSome = true ∧ Wr w11 (padd a0.a (((IntKind.wrap .i64 (x3 - 6)) : Int).toNat * 1)) 1) ∧ (∀ w12 : World, w12 = setP w11 (padd a0.a (((IntKind.wrap .i64 (x3 - 6)) : Int).toNat * 1)) [.int .u8 ((((ByteArray.mk #[48, 48, 48, 49, 48, 50, 48, 51, 48, 52, 48, 53, 48, 54, 48, 55, 48, 56, 48, 57, 49, 48, 49, 49, 49, 50, 49, 51, 49, 52, 49, 53, 49, 54, 49, 55, 49, 56, 49, 57, 50, 48, 50, 49, 50, 50, 50, 51, 50, 52, 50, 53, 50, 54, 50, 55, 50, 56, 50, 57, 51, 48, 51, 49, 51, 50, 51, 51, 51, 52, 51, 53, 51, 54, 51, 55, 51, 56, 51, 57, 52, 48, 52, 49, 52, 50, 52, 51, 52, 52, 52, 53, 52, 54, 52, 55, 52, 56, 52, 57, 53, 48, 53, 49, 53, 50, 53, 51, 53, 52, 53, 53, 53, 54, 53, 55, 53, 56, 53, 57, 54, 48, 54, 49, 54, 50, 54, 51, 54, 52, 54, 53, 54, 54, 54, 55, 54, 56, 54, 57, 55, 48, 55, 49, 55, 50, 55, 51, 55, 52, 55, 53, 55, 54, 55, 55, 55, 56, 55, 57, 56, 48, 56, 49, 56, 50, 56, 51, 56, 52, 56, 53, 56, 54, 56, 55, 56, 56, 56, 57, 57, 48, 57, 49, 57, 50, 57, 51, 57, 52, 57, 53, 57, 54, 57, 55, 57, 56, 57, 57])).data.toList.getD ((IntKind.wrap .u32 ((Int.tmod (IntKind.wrap .u32 (Int.tdiv (IntKind.wrap .u32 (Int.tmod x4 100000000)) 10000)) 100) * 2)) : Int).toNat 0).toNat : Nat)] →
 (0 : Int) ≤ (IntKind.wrap .u32 ((IntKind.wrap .u32 ((IntKind.wrap .u32 (Int.tdiv (IntKind.wrap .u32 (Int.tdiv (IntKind.wrap .u32 (Int.tmod x4 100000000)) 10000)) 100)) * 2)) + 1)) ∧ (IntKind.wrap .u32 ((IntKind.wrap .u32 ((IntKind.wrap .u32 (Int.tdiv (IntKind.wrap .u32 (Int.tdiv (IntKind.wrap .u32 (Int.tmod x4 100000000)) 10000)) 100)) * 2)) + 1)) < ((((ByteArray.mk #[48, 48, 48, 49, 48, 50, 48, 51, 48, 52, 48, 53, 48, 54, 48, 55, 48, 56, 48, 57, 49, 48, 49, 49, 49, 50, 49, 51, 49, 52, 49, 53, 49, 54, 49, 55, 49, 56, 49, 57, 50, 48, 50, 49, 50, 50, 50, 51, 50, 52, 50, 53, 50, 54, 50, 55, 50, 56, 50, 57, 51, 48, 51, 49, 51, 50, 51, 51, 51, 52, 51, 53, 51, 54, 51, 55, 51, 56, 51, 57, 52, 48, 52, 49, 52, 50, 52, 51, 52, 52, 52, 53, 52, 54, 52, 55, 52, 56, 52, 57, 53, 48, 53, 49, 53, 50, 53, 51, 53, 52, 53, 53, 53, 54, 53, 55, 53, 56, 53, 57, 54, 48, 54, 49, 54, 50, 54, 51, 54, 52, 54, 53, 54, 54, 54, 55, 54, 56, 54, 57, 55, 48, 55, 49, 55, 50, 55, 51, 55, 52, 55, 53, 55, 54, 55, 55, 55, 56, 55, 57, 56, 48, 56, 49, 56, 50, 56, 51, 56, 52, 56, 53, 56, 54, 56, 55, 56, 56, 56, 57, 57, 48, 57, 49, 57, 50, 57, 51, 57, 52, 57, 53, 57, 54, 57, 55, 57, 56, 57, 57])).size : Nat) : Int) ∧ (0 : Int) ≤ (IntKind.wrap .u32 ((IntKind.wrap .u32 (Int.tdiv (IntKind.wrap .u32 (Int.tdiv (IntKind.wrap .u32 (Int.tmod x4 100000000)) 10000)) 100)) * 2)) ∧ (IntKind.wrap .u32 ((IntKind.wrap .u32 (Int.tdiv (IntKind.wrap .u32 (Int.tdiv (IntKind.wrap .u32 (Int.tmod x4 100000000)) 10000)) 100)) * 2)) < ((((ByteArray.mk #[48, 48, 48, 49, 48, 50, 48, 51, 48, 52, 48, 53, 48, 54, 48, 55, 48, 56, 48, 57, 49, 48, 49, 49, 49, 50, 49, 51, 49, 52, 49, 53, 49, 54, 49, 55, 49, 56, 49, 57, 50, 48, 50, 49, 50, 50, 50, 51, 50, 52, 50, 53, 50, 54, 50, 55, 50, 56, 50, 57, 51, 48, 51, 49, 51, 50, 51, 51, 51, 52, 51, 53, 51, 54, 51, 55, 51, 56, 51, 57, 52, 48, 52, 49, 52, 50, 52, 51, 52, 52, 52, 53, 52, 54, 52, 55, 52, 56, 52, 57, 53, 48, 53, 49, 53, 50, 53, 51, 53, 52, 53, 53, 53, 54, 53, 55, 53, 56, 53, 57, 54, 48, 54, 49, 54, 50, 54, 51, 54, 52, 54, 53, 54, 54, 54, 55, 54, 56, 54, 57, 55, 48, 55, 49, 55, 50, 55, 51, 55, 52, 55, 53, 55, 54, 55, 55, 55, 56, 55, 57, 56, 48, 56, 49, 56, 50, 56, 51, 56, 52, 56, 53, 56, 54, 56, 55, 56, 56, 56, 57, 57, 48, 57, 49, 57, 50, 57, 51, 57, 52, 57, 53, 57, 54, 57, 55, 57, 56, 57, 57])).size : Nat) : Int) ∧ InB a0.a (IntKind.wrap .i64 (x3 - 7)) a0.n ∧ (((padd a0.a (((IntKind.wrap .i64 (x3 - 7)) : Int).toNat * 1))).isSome = true ∧ Wr w12.drew (padd a0.a (((IntKind.wrap .i64 (x3 - 7)) : Int).toNat * 1)) 1) ∧ (∀ w13 : World, w13 = setP w12.drew (padd a0.a (((IntKind.wrap .i64 (x3 - 7)) : Int).toNat * 1)) [.int .u8 ((((ByteArray.mk #[48, 48, 48, 49, 48, 50, 48, 51, 48, 52, 48, 53, 48, 54, 48, 55, 48, 56, 48, 57, 49, 48, 49, 49, 49, 50, 49, 51, 49, 52, 49, 53, 49, 54, 49, 55, 49, 56, 49, 57, 50, 48, 50, 49, 50, 50, 50, 51, 50, 52, 50, 53, 50, 54, 50, 55, 50, 56, 50, 57, 51, 48, 51, 49, 51, 50, 51, 51, 51, 52, 51, 53, 51, 54, 51, 55, 51, 56, 51, 57, 52, 48, 52, 49, 52, 50, 52, 51, 52, 52, 52, 53, 52, 54, 52, 55, 52, 56, 52, 57, 53, 48, 53, 49, 53, 50, 53, 51, 53, 52, 53, 53, 53, 54, 53, 55, 53, 56, 53, 57, 54, 48, 54, 49, 54, 50, 54, 51, 54, 52, 54, 53, 54, 54, 54, 55, 54, 56, 54, 57, 55, 48, 55, 49, 55, 50, 55, 51, 55, 52, 55, 53, 55, 54, 55, 55, 55, 56, 55, 57, 56, 48, 56, 49, 56, 50, 56, 51, 56, 52, 56, 53, 56, 54, 56, 55, 56, 56, 56, 57, 57, 48, 57, 49, 57, 50, 57, 51, 57, 52, 57, 53, 57, 54, 57, 55, 57, 56, 57, 57])).data.toList.getD ((IntKind.wrap .u32 ((IntKind.wrap .u32 ((IntKind.wrap .u32 (Int.tdiv (IntKind.wrap .u32 (Int.tdiv (IntKind.wrap .u32 (Int.tmod x4 100000000)) 10000)) 100)) * 2)) + 1)) : Int).toNat 0).toNat : Nat)] →
 InB a0.a (IntKind.wrap .i64 (x3 - 8)) a0.n ∧ (((padd a0.a (((IntKind.wrap .i64 (x3 - 8)) : Int).toNat * 1))).isSome = true ∧ Wr w13 (padd a0.a (((IntKind.wrap .i64 (x3 - 8)) : Int).toNat * 1)) 1) ∧ (∀ w14 : World, w14 = setP w13 (padd a0.a (((IntKind.wrap .i64 (x3 - 8)) : Int).toNat * 1)) [.int .u8 ((((ByteArray.mk #[48, 48, 48, 49, 48, 50, 48, 51, 48, 52, 48, 53, 48, 54, 48, 55, 48, 56, 48, 57, 49, 48, 49, 49, 49, 50, 49, 51, 49, 52, 49, 53, 49, 54, 49, 55, 49, 56, 49, 57, 50, 48, 50, 49, 50, 50, 50, 51, 50, 52, 50, 53, 50, 54, 50, 55, 50, 56, 50, 57, 51, 48, 51, 49, 51, 50, 51, 51, 51, 52, 51, 53, 51, 54, 51, 55, 51, 56, 51, 57, 52, 48, 52, 49, 52, 50, 52, 51, 52, 52, 52, 53, 52, 54, 52, 55, 52, 56, 52, 57, 53, 48, 53, 49, 53, 50, 53, 51, 53, 52, 53, 53, 53, 54, 53, 55, 53, 56, 53, 57, 54, 48, 54, 49, 54, 50, 54, 51, 54, 52, 54, 53, 54, 54, 54, 55, 54, 56, 54, 57, 55, 48, 55, 49, 55, 50, 55, 51, 55, 52, 55, 53, 55, 54, 55, 55, 55, 56, 55, 57, 56, 48, 56, 49, 56, 50, 56, 51, 56, 52, 56, 53, 56, 54, 56, 55, 56, 56, 56, 57, 57, 48, 57, 49, 57, 50, 57, 51, 57, 52, 57, 53, 57, 54, 57, 55, 57, 56, 57, 57])).data.toList.getD ((IntKind.wrap .u32 ((IntKind.wrap .u32 (Int.tdiv (IntKind.wrap .u32 (Int.tdiv (IntKind.wrap .u32 (Int.tmod x4 100000000)) 10000)) 100)) * 2)) : Int).toNat 0).toNat : Nat)] →
 ∃ n6, n6 < n1 ∧ I0 n6 ((IntKind.wrap .i64 (x3 - 8))) ((IntKind.wrap .u64 (Int.tdiv x4 100000000))) w14)))))))))
 (Br (decide ((x3 : Int) ≥ 4))
 ((0 : Int) ≤ (IntKind.wrap .u32 ((IntKind.wrap .u32 ((Int.tmod (Int.tmod (IntKind.wrap .u32 x4) 10000) 100) * 2)) + 1)) ∧ (IntKind.wrap .u32 ((IntKind.wrap .u32 ((Int.tmod (Int.tmod (IntKind.wrap .u32 x4) 10000) 100) * 2)) + 1)) < ((((ByteArray.mk #[48, 48, 48, 49, 48, 50, 48, 51, 48, 52, 48, 53, 48, 54, 48, 55, 48, 56, 48, 57, 49, 48, 49, 49, 49, 50, 49, 51, 49, 52, 49, 53, 49, 54, 49, 55, 49, 56, 49, 57, 50, 48, 50, 49, 50, 50, 50, 51, 50, 52, 50, 53, 50, 54, 50, 55, 50, 56, 50, 57, 51, 48, 51, 49, 51, 50, 51, 51, 51, 52, 51, 53, 51, 54, 51, 55, 51, 56, 51, 57, 52, 48, 52, 49, 52, 50, 52, 51, 52, 52, 52, 53, 52, 54, 52, 55, 52, 56, 52, 57, 53, 48, 53, 49, 53, 50, 53, 51, 53, 52, 53, 53, 53, 54, 53, 55, 53, 56, 53, 57, 54, 48, 54, 49, 54, 50, 54, 51, 54, 52, 54, 53, 54, 54, 54, 55, 54, 56, 54, 57, 55, 48, 55, 49, 55, 50, 55, 51, 55, 52, 55, 53, 55, 54, 55, 55, 55, 56, 55, 57, 56, 48, 56, 49, 56, 50, 56, 51, 56, 52, 56, 53, 56, 54, 56, 55, 56, 56, 56, 57, 57, 48, 57, 49, 57, 50, 57, 51, 57, 52, 57, 53, 57, 54, 57, 55, 57, 56, 57, 57])).size : Nat) : Int) ∧ (0 : Int) ≤ (IntKind.wrap .u32 ((Int.tmod (Int.tmod (IntKind.wrap .u32 x4) 10000) 100) * 2)) ∧ (IntKind.wrap .u32 ((Int.tmod (Int.tmod (IntKind.wrap .u32 x4) 10000) 100) * 2)) < ((((ByteArray.mk #[48, 48, 48, 49, 48, 50, 48, 51, 48, 52, 48, 53, 48, 54, 48, 55, 48, 56, 48, 57, 49, 48, 49, 49, 49, 50, 49, 51, 49, 52, 49, 53, 49, 54, 49, 55, 49, 56, 49, 57, 50, 48, 50, 49, 50, 50, 50, 51, 50, 52, 50, 53, 50, 54, 50, 55, 50, 56, 50, 57, 51, 48, 51, 49, 51, 50, 51, 51, 51, 52, 51, 53, 51, 54, 51, 55, 51, 56, 51, 57, 52, 48, 52, 49, 52, 50, 52, 51, 52, 52, 52, 53, 52, 54, 52, 55, 52, 56, 52, 57, 53, 48, 53, 49, 53, 50, 53, 51, 53, 52, 53, 53, 53, 54, 53, 55, 53, 56, 53, 57, 54, 48, 54, 49, 54, 50, 54, 51, 54, 52, 54, 53, 54, 54, 54, 55, 54, 56, 54, 57, 55, 48, 55, 49, 55, 50, 55, 51, 55, 52, 55, 53, 55, 54, 55, 55, 55, 56, 55, 57, 56, 48, 56, 49, 56, 50, 56, 51, 56, 52, 56, 53, 56, 54, 56, 55, 56, 56, 56, 57, 57, 48, 57, 49, 57, 50, 57, 51, 57, 52, 57, 53, 57, 54, 57, 55, 57, 56, 57, 57])).size : Nat) : Int) ∧ InB a0.a (IntKind.wrap .i64 (x3 - 1)) a0.n ∧ (((padd a0.a (((IntKind.wrap .i64 (x3 - 1)) : Int).toNat * 1))).isSome = true ∧ Wr w5.drew (padd a0.a (((IntKind.wrap .i64 (x3 - 1)) : Int).toNat * 1)) 1) ∧ (∀ w15 : World, w15 = setP w5.drew (padd a0.a (((IntKind.wrap .i64 (x3 - 1)) : Int).toNat * 1)) [.int .u8 ((((ByteArray.mk #[48, 48, 48, 49, 48, 50, 48, 51, 48, 52, 48, 53, 48, 54, 48, 55, 48, 56, 48, 57, 49, 48, 49, 49, 49, 50, 49, 51, 49, 52, 49, 53, 49, 54, 49, 55, 49, 56, 49, 57, 50, 48, 50, 49, 50, 50, 50, 51, 50, 52, 50, 53, 50, 54, 50, 55, 50, 56, 50, 57, 51, 48, 51, 49, 51, 50, 51, 51, 51, 52, 51, 53, 51, 54, 51, 55, 51, 56, 51, 57, 52, 48, 52, 49, 52, 50, 52, 51, 52, 52, 52, 53, 52, 54, 52, 55, 52, 56, 52, 57, 53, 48, 53, 49, 53, 50, 53, 51, 53, 52, 53, 53, 53, 54, 53, 55, 53, 56, 53, 57, 54, 48, 54, 49, 54, 50, 54, 51, 54, 52, 54, 53, 54, 54, 54, 55, 54, 56, 54, 57, 55, 48, 55, 49, 55, 50, 55, 51, 55, 52, 55, 53, 55, 54, 55, 55, 55, 56, 55, 57, 56, 48, 56, 49, 56, 50, 56, 51, 56, 52, 56, 53, 56, 54, 56, 55, 56, 56, 56, 57, 57, 48, 57, 49, 57, 50, 57, 51, 57, 52, 57, 53, 57, 54, 57, 55, 57, 56, 57, 57])).data.toList.getD ((IntKind.wrap .u32 ((IntKind.wrap .u32 ((Int.tmod (Int.tmod (IntKind.wrap .u32 x4) 10000) 100) * 2)) + 1)) : Int).toNat 0).toNat : Nat)] →
 InB a0.a (IntKind.wrap .i64 (x3 - 2)) a0.n ∧ (((padd a0.a (((IntKind.wrap .i64 (x3 - 2)) : Int).toNat * 1))).isSome = true ∧ Wr w15 (padd a0.a (((IntKind.wrap .i64 (x3 - 2)) : Int).toNat * 1)) 1) ∧ (∀ w16 : World, w16 = setP w15 (padd a0.a (((IntKind.wrap .i64 (x3 - 2)) : Int).toNat * 1)) [.int .u8 ((((ByteArray.mk #[48, 48, 48, 49, 48, 50, 48, 51, 48, 52, 48, 53, 48, 54, 48, 55, 48, 56, 48, 57, 49, 48, 49, 49, 49, 50, 49, 51, 49, 52, 49, 53, 49, 54, 49, 55, 49, 56, 49, 57, 50, 48, 50, 49, 50, 50, 50, 51, 50, 52, 50, 53, 50, 54, 50, 55, 50, 56, 50, 57, 51, 48, 51, 49, 51, 50, 51, 51, 51, 52, 51, 53, 51, 54, 51, 55, 51, 56, 51, 57, 52, 48, 52, 49, 52, 50, 52, 51, 52, 52, 52, 53, 52, 54, 52, 55, 52, 56, 52, 57, 53, 48, 53, 49, 53, 50, 53, 51, 53, 52, 53, 53, 53, 54, 53, 55, 53, 56, 53, 57, 54, 48, 54, 49, 54, 50, 54, 51, 54, 52, 54, 53, 54, 54, 54, 55, 54, 56, 54, 57, 55, 48, 55, 49, 55, 50, 55, 51, 55, 52, 55, 53, 55, 54, 55, 55, 55, 56, 55, 57, 56, 48, 56, 49, 56, 50, 56, 51, 56, 52, 56, 53, 56, 54, 56, 55, 56, 56, 56, 57, 57, 48, 57, 49, 57, 50, 57, 51, 57, 52, 57, 53, 57, 54, 57, 55, 57, 56, 57, 57])).data.toList.getD ((IntKind.wrap .u32 ((Int.tmod (Int.tmod (IntKind.wrap .u32 x4) 10000) 100) * 2)) : Int).toNat 0).toNat : Nat)] →
 (0 : Int) ≤ (IntKind.wrap .u32 ((IntKind.wrap .u32 ((IntKind.wrap .u32 (Int.tdiv (Int.tmod (IntKind.wrap .u32 x4) 10000) 100)) * 2)) + 1)) ∧ (IntKind.wrap .u32 ((IntKind.wrap .u32 ((IntKind.wrap .u32 (Int.tdiv (Int.tmod (IntKind.wrap .u32 x4) 10000) 100)) * 2)) + 1)) < ((((ByteArray.mk #[48, 48, 48, 49, 48, 50, 48, 51, 48, 52, 48, 53, 48, 54, 48, 55, 48, 56, 48, 57, 49, 48, 49, 49, 49, 50, 49, 51, 49, 52, 49, 53, 49, 54, 49, 55, 49, 56, 49, 57, 50, 48, 50, 49, 50, 50, 50, 51, 50, 52, 50, 53, 50, 54, 50, 55, 50, 56, 50, 57, 51, 48, 51, 49, 51, 50, 51, 51, 51, 52, 51, 53, 51, 54, 51, 55, 51, 56, 51, 57, 52, 48, 52, 49, 52, 50, 52, 51, 52, 52, 52, 53, 52, 54, 52, 55, 52, 56, 52, 57, 53, 48, 53, 49, 53, 50, 53, 51, 53, 52, 53, 53, 53, 54, 53, 55, 53, 56, 53, 57, 54, 48, 54, 49, 54, 50, 54, 51, 54, 52, 54, 53, 54, 54, 54, 55, 54, 56, 54, 57, 55, 48, 55, 49, 55, 50, 55, 51, 55, 52, 55, 53, 55, 54, 55, 55, 55, 56, 55, 57, 56, 48, 56, 49, 56, 50, 56, 51, 56, 52, 56, 53, 56, 54, 56, 55, 56, 56, 56, 57, 57, 48, 57, 49, 57, 50, 57, 51, 57, 52, 57, 53, 57, 54, 57, 55, 57, 56, 57, 57])).size : Nat) : Int) ∧ (0 : Int) ≤ (IntKind.wrap .u32 ((IntKind.wrap .u32 (Int.tdiv (Int.tmod (IntKind.wrap .u32 x4) 10000) 100)) * 2)) ∧ (IntKind.wrap .u32 ((IntKind.wrap .u32 (Int.tdiv (Int.tmod (IntKind.wrap .u32 x4) 10000) 100)) * 2)) < ((((ByteArray.mk #[48, 48, 48, 49, 48, 50, 48, 51, 48, 52, 48, 53, 48, 54, 48, 55, 48, 56, 48, 57, 49, 48, 49, 49, 49, 50, 49, 51, 49, 52, 49, 53, 49, 54, 49, 55, 49, 56, 49, 57, 50, 48, 50, 49, 50, 50, 50, 51, 50, 52, 50, 53, 50, 54, 50, 55, 50, 56, 50, 57, 51, 48, 51, 49, 51, 50, 51, 51, 51, 52, 51, 53, 51, 54, 51, 55, 51, 56, 51, 57, 52, 48, 52, 49, 52, 50, 52, 51, 52, 52, 52, 53, 52, 54, 52, 55, 52, 56, 52, 57, 53, 48, 53, 49, 53, 50, 53, 51, 53, 52, 53, 53, 53, 54, 53, 55, 53, 56, 53, 57, 54, 48, 54, 49, 54, 50, 54, 51, 54, 52, 54, 53, 54, 54, 54, 55, 54, 56, 54, 57, 55, 48, 55, 49, 55, 50, 55, 51, 55, 52, 55, 53, 55, 54, 55, 55, 55, 56, 55, 57, 56, 48, 56, 49, 56, 50, 56, 51, 56, 52, 56, 53, 56, 54, 56, 55, 56, 56, 56, 57, 57, 48, 57, 49, 57, 50, 57, 51, 57, 52, 57, 53, 57, 54, 57, 55, 57, 56, 57, 57])).size : Nat) : Int) ∧ InB a0.a (IntKind.wrap .i64 (x3 - 3)) a0.n ∧ (((padd a0.a (((IntKind.wrap .i64 (x3 - 3)) : Int).toNat * 1))).isSome = true ∧ Wr w16.drew (padd a0.a (((IntKind.wrap .i64 (x3 - 3)) : Int).toNat * 1)) 1) ∧ (∀ w17 : World, w17 = setP w16.drew (padd a0.a (((IntKind.wrap .i64 (x3 - 3)) : Int).toNat * 1)) [.int .u8 ((((ByteArray.mk #[48, 48, 48, 49, 48, 50, 48, 51, 48, 52, 48, 53, 48, 54, 48, 55, 48, 56, 48, 57, 49, 48, 49, 49, 49, 50, 49, 51, 49, 52, 49, 53, 49, 54, 49, 55, 49, 56, 49, 57, 50, 48, 50, 49, 50, 50, 50, 51, 50, 52, 50, 53, 50, 54, 50, 55, 50, 56, 50, 57, 51, 48, 51, 49, 51, 50, 51, 51, 51, 52, 51, 53, 51, 54, 51, 55, 51, 56, 51, 57, 52, 48, 52, 49, 52, 50, 52, 51, 52, 52, 52, 53, 52, 54, 52, 55, 52, 56, 52, 57, 53, 48, 53, 49, 53, 50, 53, 51, 53, 52, 53, 53, 53, 54, 53, 55, 53, 56, 53, 57, 54, 48, 54, 49, 54, 50, 54, 51, 54, 52, 54, 53, 54, 54, 54, 55, 54, 56, 54, 57, 55, 48, 55, 49, 55, 50, 55, 51, 55, 52, 55, 53, 55, 54, 55, 55, 55, 56, 55, 57, 56, 48, 56, 49, 56, 50, 56, 51, 56, 52, 56, 53, 56, 54, 56, 55, 56, 56, 56, 57, 57, 48, 57, 49, 57, 50, 57, 51, 57, 52, 57, 53, 57, 54, 57, 55, 57, 56, 57, 57])).data.toList.getD ((IntKind.wrap .u32 ((IntKind.wrap .u32 ((IntKind.wrap .u32 (Int.tdiv (Int.tmod (IntKind.wrap .u32 x4) 10000) 100)) * 2)) + 1)) : Int).toNat 0).toNat : Nat)] →
 InB a0.a (IntKind.wrap .i64 (x3 - 4)) a0.n ∧ (((padd a0.a (((IntKind.wrap .i64 (x3 - 4)) : Int).toNat * 1))).isSome = true ∧ Wr w17 (padd a0.a (((IntKind.wrap .i64 (x3 - 4)) : Int).toNat * 1)) 1) ∧ (∀ w18 : World, w18 = setP w17 (padd a0.a (((IntKind.wrap .i64 (x3 - 4)) : Int).toNat * 1)) [.int .u8 ((((ByteArray.mk #[48, 48, 48, 49, 48, 50, 48, 51, 48, 52, 48, 53, 48, 54, 48, 55, 48, 56, 48, 57, 49, 48, 49, 49, 49, 50, 49, 51, 49, 52, 49, 53, 49, 54, 49, 55, 49, 56, 49, 57, 50, 48, 50, 49, 50, 50, 50, 51, 50, 52, 50, 53, 50, 54, 50, 55, 50, 56, 50, 57, 51, 48, 51, 49, 51, 50, 51, 51, 51, 52, 51, 53, 51, 54, 51, 55, 51, 56, 51, 57, 52, 48, 52, 49, 52, 50, 52, 51, 52, 52, 52, 53, 52, 54, 52, 55, 52, 56, 52, 57, 53, 48, 53, 49, 53, 50, 53, 51, 53, 52, 53, 53, 53, 54, 53, 55, 53, 56, 53, 57, 54, 48, 54, 49, 54, 50, 54, 51, 54, 52, 54, 53, 54, 54, 54, 55, 54, 56, 54, 57, 55, 48, 55, 49, 55, 50, 55, 51, 55, 52, 55, 53, 55, 54, 55, 55, 55, 56, 55, 57, 56, 48, 56, 49, 56, 50, 56, 51, 56, 52, 56, 53, 56, 54, 56, 55, 56, 56, 56, 57, 57, 48, 57, 49, 57, 50, 57, 51, 57, 52, 57, 53, 57, 54, 57, 55, 57, 56, 57, 57])).data.toList.getD ((IntKind.wrap .u32 ((IntKind.wrap .u32 (Int.tdiv (Int.tmod (IntKind.wrap .u32 x4) 10000) 100)) * 2)) : Int).toNat 0).toNat : Nat)] →
 Br (decide (((IntKind.wrap .i64 (x3 - 4)) : Int) ≥ 2))
 ((0 : Int) ≤ (IntKind.wrap .u32 ((IntKind.wrap .u32 ((Int.tmod (IntKind.wrap .u32 (Int.tdiv (IntKind.wrap .u32 x4) 10000)) 100) * 2)) + 1)) ∧ (IntKind.wrap .u32 ((IntKind.wrap .u32 ((Int.tmod (IntKind.wrap .u32 (Int.tdiv (IntKind.wrap .u32 x4) 10000)) 100) * 2)) + 1)) < ((((ByteArray.mk #[48, 48, 48, 49, 48, 50, 48, 51, 48, 52, 48, 53, 48, 54, 48, 55, 48, 56, 48, 57, 49, 48, 49, 49, 49, 50, 49, 51, 49, 52, 49, 53, 49, 54, 49, 55, 49, 56, 49, 57, 50, 48, 50, 49, 50, 50, 50, 51, 50, 52, 50, 53, 50, 54, 50, 55, 50, 56, 50, 57, 51, 48, 51, 49, 51, 50, 51, 51, 51, 52, 51, 53, 51, 54, 51, 55, 51, 56, 51, 57, 52, 48, 52, 49, 52, 50, 52, 51, 52, 52, 52, 53, 52, 54, 52, 55, 52, 56, 52, 57, 53, 48, 53, 49, 53, 50, 53, 51, 53, 52, 53, 53, 53, 54, 53, 55, 53, 56, 53, 57, 54, 48, 54, 49, 54, 50, 54, 51, 54, 52, 54, 53, 54, 54, 54, 55, 54, 56, 54, 57, 55, 48, 55, 49, 55, 50, 55, 51, 55, 52, 55, 53, 55, 54, 55, 55, 55, 56, 55, 57, 56, 48, 56, 49, 56, 50, 56, 51, 56, 52, 56, 53, 56, 54, 56, 55, 56, 56, 56, 57, 57, 48, 57, 49, 57, 50, 57, 51, 57, 52, 57, 53, 57, 54, 57, 55, 57, 56, 57, 57])).size : Nat) : Int) ∧ (0 : Int) ≤ (IntKind.wrap .u32 ((Int.tmod (IntKind.wrap .u32 (Int.tdiv (IntKind.wrap .u32 x4) 10000)) 100) * 2)) ∧ (IntKind.wrap .u32 ((Int.tmod (IntKind.wrap .u32 (Int.tdiv (IntKind.wrap .u32 x4) 10000)) 100) * 2)) < ((((ByteArray.mk #[48, 48, 48, 49, 48, 50, 48, 51, 48, 52, 48, 53, 48, 54, 48, 55, 48, 56, 48, 57, 49, 48, 49, 49, 49, 50, 49, 51, 49, 52, 49, 53, 49, 54, 49, 55, 49, 56, 49, 57, 50, 48, 50, 49, 50, 50, 50, 51, 50, 52, 50, 53, 50, 54, 50, 55, 50, 56, 50, 57, 51, 48, 51, 49, 51, 50, 51, 51, 51, 52, 51, 53, 51, 54, 51, 55, 51, 56, 51, 57, 52, 48, 52, 49, 52, 50, 52, 51, 52, 52, 52, 53, 52, 54, 52, 55, 52, 56, 52, 57, 53, 48, 53, 49, 53, 50, 53, 51, 53, 52, 53, 53, 53, 54, 53, 55, 53, 56, 53, 57, 54, 48, 54, 49, 54, 50, 54, 51, 54, 52, 54, 53, 54, 54, 54, 55, 54, 56, 54, 57, 55, 48, 55, 49, 55, 50, 55, 51, 55, 52, 55, 53, 55, 54, 55, 55, 55, 56, 55, 57, 56, 48, 56, 49, 56, 50, 56, 51, 56, 52, 56, 53, 56, 54, 56, 55, 56, 56, 56, 57, 57, 48, 57, 49, 57, 50, 57, 51, 57, 52, 57, 53, 57, 54, 57, 55, 57, 56, 57, 57])).size : Nat) : Int) ∧ InB a0.a (IntKind.wrap .i64 ((IntKind.wrap .i64 (x3 - 4)) - 1)) a0.n ∧ (((padd a0.a (((IntKind.wrap .i64 ((IntKind.wrap .i64 (x3 - 4)) - 1)) : Int).toNat * 1))).isSome = true ∧ Wr w18.drew (padd a0.a (((IntKind.wrap .i64 ((IntKind.wrap .i64 (x3 - 4)) - 1)) : Int).toNat * 1)) 1) ∧ (∀ w19 : World, w19 = setP w18.drew (padd a0.a (((IntKind.wrap .i64 ((IntKind.wrap .i64 (x3 - 4)) - 1)) : Int).toNat * 1)) [.int .u8 ((((ByteArray.mk #[48, 48, 48, 49, 48, 50, 48, 51, 48, 52, 48, 53, 48, 54, 48, 55, 48, 56, 48, 57, 49, 48, 49, 49, 49, 50, 49, 51, 49, 52, 49, 53, 49, 54, 49, 55, 49, 56, 49, 57, 50, 48, 50, 49, 50, 50, 50, 51, 50, 52, 50, 53, 50, 54, 50, 55, 50, 56, 50, 57, 51, 48, 51, 49, 51, 50, 51, 51, 51, 52, 51, 53, 51, 54, 51, 55, 51, 56, 51, 57, 52, 48, 52, 49, 52, 50, 52, 51, 52, 52, 52, 53, 52, 54, 52, 55, 52, 56, 52, 57, 53, 48, 53, 49, 53, 50, 53, 51, 53, 52, 53, 53, 53, 54, 53, 55, 53, 56, 53, 57, 54, 48, 54, 49, 54, 50, 54, 51, 54, 52, 54, 53, 54, 54, 54, 55, 54, 56, 54, 57, 55, 48, 55, 49, 55, 50, 55, 51, 55, 52, 55, 53, 55, 54, 55, 55, 55, 56, 55, 57, 56, 48, 56, 49, 56, 50, 56, 51, 56, 52, 56, 53, 56, 54, 56, 55, 56, 56, 56, 57, 57, 48, 57, 49, 57, 50, 57, 51, 57, 52, 57, 53, 57, 54, 57, 55, 57, 56, 57, 57])).data.toList.getD ((IntKind.wrap .u32 ((IntKind.wrap .u32 ((Int.tmod (IntKind.wrap .u32 (Int.tdiv (IntKind.wrap .u32 x4) 10000)) 100) * 2)) + 1)) : Int).toNat 0).toNat : Nat)] →
 InB a0.a (IntKind.wrap .i64 ((IntKind.wrap .i64 (x3 - 4)) - 2)) a0.n ∧ (((padd a0.a (((IntKind.wrap .i64 ((IntKind.wrap .i64 (x3 - 4)) - 2)) : Int).toNat * 1))).isSome = true ∧ Wr w19 (padd a0.a (((IntKind.wrap .i64 ((IntKind.wrap .i64 (x3 - 4)) - 2)) : Int).toNat * 1)) 1) ∧ (∀ w20 : World, w20 = setP w19 (padd a0.a (((IntKind.wrap .i64 ((IntKind.wrap .i64 (x3 - 4)) - 2)) : Int).toNat * 1)) [.int .u8 ((((ByteArray.mk #[48, 48, 48, 49, 48, 50, 48, 51, 48, 52, 48, 53, 48, 54, 48, 55, 48, 56, 48, 57, 49, 48, 49, 49, 49, 50, 49, 51, 49, 52, 49, 53, 49, 54, 49, 55, 49, 56, 49, 57, 50, 48, 50, 49, 50, 50, 50, 51, 50, 52, 50, 53, 50, 54, 50, 55, 50, 56, 50, 57, 51, 48, 51, 49, 51, 50, 51, 51, 51, 52, 51, 53, 51, 54, 51, 55, 51, 56, 51, 57, 52, 48, 52, 49, 52, 50, 52, 51, 52, 52, 52, 53, 52, 54, 52, 55, 52, 56, 52, 57, 53, 48, 53, 49, 53, 50, 53, 51, 53, 52, 53, 53, 53, 54, 53, 55, 53, 56, 53, 57, 54, 48, 54, 49, 54, 50, 54, 51, 54, 52, 54, 53, 54, 54, 54, 55, 54, 56, 54, 57, 55, 48, 55, 49, 55, 50, 55, 51, 55, 52, 55, 53, 55, 54, 55, 55, 55, 56, 55, 57, 56, 48, 56, 49, 56, 50, 56, 51, 56, 52, 56, 53, 56, 54, 56, 55, 56, 56, 56, 57, 57, 48, 57, 49, 57, 50, 57, 51, 57, 52, 57, 53, 57, 54, 57, 55, 57, 56, 57, 57])).data.toList.getD ((IntKind.wrap .u32 ((Int.tmod (IntKind.wrap .u32 (Int.tdiv (IntKind.wrap .u32 x4) 10000)) 100) * 2)) : Int).toNat 0).toNat : Nat)] →
 Br (decide (((IntKind.wrap .i64 ((IntKind.wrap .i64 (x3 - 4)) - 2)) : Int) > 0))
 (InB a0.a 0 a0.n ∧ (((padd a0.a ((0 : Int).toNat * 1))).isSome = true ∧ Wr w20 (padd a0.a ((0 : Int).toNat * 1)) 1) ∧ (∀ w21 : World, w21 = setP w20 (padd a0.a ((0 : Int).toNat * 1)) [.int .u8 (IntKind.wrap .u8 (IntKind.wrap .u32 (48 + (IntKind.wrap .u32 (Int.tdiv (IntKind.wrap .u32 (Int.tdiv (IntKind.wrap .u32 x4) 10000)) 100)))))] →
 R (.returned (.tuple #[])) w21))
 (R (.returned (.tuple #[])) w20))))
 (Br (decide (((IntKind.wrap .i64 (x3 - 4)) : Int) > 0))
 (InB a0.a 0 a0.n ∧ (((padd a0.a ((0 : Int).toNat * 1))).isSome = true ∧ Wr w18 (padd a0.a ((0 : Int).toNat * 1)) 1) ∧ (∀ w22 : World, w22 = setP w18 (padd a0.a ((0 : Int).toNat * 1)) [.int .u8 (IntKind.wrap .u8 (IntKind.wrap .u32 (48 + (IntKind.wrap .u32 (Int.tdiv (IntKind.wrap .u32 x4) 10000)))))] →
 R (.returned (.tuple #[])) w22))
 (R (.returned (.tuple #[])) w18)))))))
 (Br (decide ((x3 : Int) ≥ 2))
 ((0 : Int) ≤ (IntKind.wrap .u32 ((IntKind.wrap .u32 ((Int.tmod (IntKind.wrap .u32 x4) 100) * 2)) + 1)) ∧ (IntKind.wrap .u32 ((IntKind.wrap .u32 ((Int.tmod (IntKind.wrap .u32 x4) 100) * 2)) + 1)) < ((((ByteArray.mk #[48, 48, 48, 49, 48, 50, 48, 51, 48, 52, 48, 53, 48, 54, 48, 55, 48, 56, 48, 57, 49, 48, 49, 49, 49, 50, 49, 51, 49, 52, 49, 53, 49, 54, 49, 55, 49, 56, 49, 57, 50, 48, 50, 49, 50, 50, 50, 51, 50, 52, 50, 53, 50, 54, 50, 55, 50, 56, 50, 57, 51, 48, 51, 49, 51, 50, 51, 51, 51, 52, 51, 53, 51, 54, 51, 55, 51, 56, 51, 57, 52, 48, 52, 49, 52, 50, 52, 51, 52, 52, 52, 53, 52, 54, 52, 55, 52, 56, 52, 57, 53, 48, 53, 49, 53, 50, 53, 51, 53, 52, 53, 53, 53, 54, 53, 55, 53, 56, 53, 57, 54, 48, 54, 49, 54, 50, 54, 51, 54, 52, 54, 53, 54, 54, 54, 55, 54, 56, 54, 57, 55, 48, 55, 49, 55, 50, 55, 51, 55, 52, 55, 53, 55, 54, 55, 55, 55, 56, 55, 57, 56, 48, 56, 49, 56, 50, 56, 51, 56, 52, 56, 53, 56, 54, 56, 55, 56, 56, 56, 57, 57, 48, 57, 49, 57, 50, 57, 51, 57, 52, 57, 53, 57, 54, 57, 55, 57, 56, 57, 57])).size : Nat) : Int) ∧ (0 : Int) ≤ (IntKind.wrap .u32 ((Int.tmod (IntKind.wrap .u32 x4) 100) * 2)) ∧ (IntKind.wrap .u32 ((Int.tmod (IntKind.wrap .u32 x4) 100) * 2)) < ((((ByteArray.mk #[48, 48, 48, 49, 48, 50, 48, 51, 48, 52, 48, 53, 48, 54, 48, 55, 48, 56, 48, 57, 49, 48, 49, 49, 49, 50, 49, 51, 49, 52, 49, 53, 49, 54, 49, 55, 49, 56, 49, 57, 50, 48, 50, 49, 50, 50, 50, 51, 50, 52, 50, 53, 50, 54, 50, 55, 50, 56, 50, 57, 51, 48, 51, 49, 51, 50, 51, 51, 51, 52, 51, 53, 51, 54, 51, 55, 51, 56, 51, 57, 52, 48, 52, 49, 52, 50, 52, 51, 52, 52, 52, 53, 52, 54, 52, 55, 52, 56, 52, 57, 53, 48, 53, 49, 53, 50, 53, 51, 53, 52, 53, 53, 53, 54, 53, 55, 53, 56, 53, 57, 54, 48, 54, 49, 54, 50, 54, 51, 54, 52, 54, 53, 54, 54, 54, 55, 54, 56, 54, 57, 55, 48, 55, 49, 55, 50, 55, 51, 55, 52, 55, 53, 55, 54, 55, 55, 55, 56, 55, 57, 56, 48, 56, 49, 56, 50, 56, 51, 56, 52, 56, 53, 56, 54, 56, 55, 56, 56, 56, 57, 57, 48, 57, 49, 57, 50, 57, 51, 57, 52, 57, 53, 57, 54, 57, 55, 57, 56, 57, 57])).size : Nat) : Int) ∧ InB a0.a (IntKind.wrap .i64 (x3 - 1)) a0.n ∧ (((padd a0.a (((IntKind.wrap .i64 (x3 - 1)) : Int).toNat * 1))).isSome = true ∧ Wr w5.drew (padd a0.a (((IntKind.wrap .i64 (x3 - 1)) : Int).toNat * 1)) 1) ∧ (∀ w23 : World, w23 = setP w5.drew (padd a0.a (((IntKind.wrap .i64 (x3 - 1)) : Int).toNat * 1)) [.int .u8 ((((ByteArray.mk #[48, 48, 48, 49, 48, 50, 48, 51, 48, 52, 48, 53, 48, 54, 48, 55, 48, 56, 48, 57, 49, 48, 49, 49, 49, 50, 49, 51, 49, 52, 49, 53, 49, 54, 49, 55, 49, 56, 49, 57, 50, 48, 50, 49, 50, 50, 50, 51, 50, 52, 50, 53, 50, 54, 50, 55, 50, 56, 50, 57, 51, 48, 51, 49, 51, 50, 51, 51, 51, 52, 51, 53, 51, 54, 51, 55, 51, 56, 51, 57, 52, 48, 52, 49, 52, 50, 52, 51, 52, 52, 52, 53, 52, 54, 52, 55, 52, 56, 52, 57, 53, 48, 53, 49, 53, 50, 53, 51, 53, 52, 53, 53, 53, 54, 53, 55, 53, 56, 53, 57, 54, 48, 54, 49, 54, 50, 54, 51, 54, 52, 54, 53, 54, 54, 54, 55, 54, 56, 54, 57, 55, 48, 55, 49, 55, 50, 55, 51, 55, 52, 55, 53, 55, 54, 55, 55, 55, 56, 55, 57, 56, 48, 56, 49, 56, 50, 56, 51, 56, 52, 56, 53, 56, 54, 56, 55, 56, 56, 56, 57, 57, 48, 57, 49, 57, 50, 57, 51, 57, 52, 57, 53, 57, 54, 57, 55, 57, 56, 57, 57])).data.toList.getD ((IntKind.wrap .u32 ((IntKind.wrap .u32 ((Int.tmod (IntKind.wrap .u32 x4) 100) * 2)) + 1)) : Int).toNat 0).toNat : Nat)] →
 InB a0.a (IntKind.wrap .i64 (x3 - 2)) a0.n ∧ (((padd a0.a (((IntKind.wrap .i64 (x3 - 2)) : Int).toNat * 1))).isSome = true ∧ Wr w23 (padd a0.a (((IntKind.wrap .i64 (x3 - 2)) : Int).toNat * 1)) 1) ∧ (∀ w24 : World, w24 = setP w23 (padd a0.a (((IntKind.wrap .i64 (x3 - 2)) : Int).toNat * 1)) [.int .u8 ((((ByteArray.mk #[48, 48, 48, 49, 48, 50, 48, 51, 48, 52, 48, 53, 48, 54, 48, 55, 48, 56, 48, 57, 49, 48, 49, 49, 49, 50, 49, 51, 49, 52, 49, 53, 49, 54, 49, 55, 49, 56, 49, 57, 50, 48, 50, 49, 50, 50, 50, 51, 50, 52, 50, 53, 50, 54, 50, 55, 50, 56, 50, 57, 51, 48, 51, 49, 51, 50, 51, 51, 51, 52, 51, 53, 51, 54, 51, 55, 51, 56, 51, 57, 52, 48, 52, 49, 52, 50, 52, 51, 52, 52, 52, 53, 52, 54, 52, 55, 52, 56, 52, 57, 53, 48, 53, 49, 53, 50, 53, 51, 53, 52, 53, 53, 53, 54, 53, 55, 53, 56, 53, 57, 54, 48, 54, 49, 54, 50, 54, 51, 54, 52, 54, 53, 54, 54, 54, 55, 54, 56, 54, 57, 55, 48, 55, 49, 55, 50, 55, 51, 55, 52, 55, 53, 55, 54, 55, 55, 55, 56, 55, 57, 56, 48, 56, 49, 56, 50, 56, 51, 56, 52, 56, 53, 56, 54, 56, 55, 56, 56, 56, 57, 57, 48, 57, 49, 57, 50, 57, 51, 57, 52, 57, 53, 57, 54, 57, 55, 57, 56, 57, 57])).data.toList.getD ((IntKind.wrap .u32 ((Int.tmod (IntKind.wrap .u32 x4) 100) * 2)) : Int).toNat 0).toNat : Nat)] →
 Br (decide (((IntKind.wrap .i64 (x3 - 2)) : Int) > 0))
 (InB a0.a 0 a0.n ∧ (((padd a0.a ((0 : Int).toNat * 1))).isSome = true ∧ Wr w24 (padd a0.a ((0 : Int).toNat * 1)) 1) ∧ (∀ w25 : World, w25 = setP w24 (padd a0.a ((0 : Int).toNat * 1)) [.int .u8 (IntKind.wrap .u8 (IntKind.wrap .u32 (48 + (IntKind.wrap .u32 (Int.tdiv (IntKind.wrap .u32 x4) 100)))))] →
 R (.returned (.tuple #[])) w25))
 (R (.returned (.tuple #[])) w24))))
 (Br (decide ((x3 : Int) > 0))
 (InB a0.a 0 a0.n ∧ (((padd a0.a ((0 : Int).toNat * 1))).isSome = true ∧ Wr w5 (padd a0.a ((0 : Int).toNat * 1)) 1) ∧ (∀ w26 : World, w26 = setP w5 (padd a0.a ((0 : Int).toNat * 1)) [.int .u8 (IntKind.wrap .u8 (IntKind.wrap .u32 (48 + (IntKind.wrap .u32 x4))))] →
 R (.returned (.tuple #[])) w26))
 (R (.returned (.tuple #[])) w5))))
theorem internal_strconv_formatBase10.vc {a0 a1 w} {R : Ending → World → Prop} (h : internal_strconv_formatBase10.pre a0 a1 w R) : Calls Tryd.prog n_internal_strconv_formatBase10 #[.slice a0.a a0.n a0.c, .int .u64 a1] w R :=
  calls_of_eq (an := ⟨[(1, ⟨[(4, .int .i64), (1, .int .u64)], [], []⟩)], [], []⟩) (args := [.slice a0.a a0.n a0.c, .int .u64 a1]) Tryd.noNG Tryd.mixed Tryd.func64 h (by kernel_rfl)

/- internal/strconv.formatBits UNSUPPORTED: bad itoa.go:93 bad itoa.go:143 bad itoa.go:146 -/
def internal_strconv_formatBits.pre (a0 : Sl) (a1 : Int) (a2 : Int) (a3 : Bool) (a4 : Bool) (w : World) (R : Ending → World → Prop) : Prop :=
 Br (decide ((a2 : Int) < 2))
 (False)
 (Br ((a2 : Int) == 10)
 (False)
 (Br (decide ((a2 : Int) > 36))
 (False)
 (∀ w0 : World, w0 = w.alloc (.cells #[.int .u8 0, .int .u8 0, .int .u8 0, .int .u8 0, .int .u8 0, .int .u8 0, .int .u8 0, .int .u8 0, .int .u8 0, .int .u8 0, .int .u8 0, .int .u8 0, .int .u8 0, .int .u8 0, .int .u8 0, .int .u8 0, .int .u8 0, .int .u8 0, .int .u8 0, .int .u8 0, .int .u8 0, .int .u8 0, .int .u8 0, .int .u8 0, .int .u8 0, .int .u8 0, .int .u8 0, .int .u8 0, .int .u8 0, .int .u8 0, .int .u8 0, .int .u8 0, .int .u8 0, .int .u8 0, .int .u8 0, .int .u8 0, .int .u8 0, .int .u8 0, .int .u8 0, .int .u8 0, .int .u8 0, .int .u8 0, .int .u8 0, .int .u8 0, .int .u8 0, .int .u8 0, .int .u8 0, .int .u8 0, .int .u8 0, .int .u8 0, .int .u8 0, .int .u8 0, .int .u8 0, .int .u8 0, .int .u8 0, .int .u8 0, .int .u8 0, .int .u8 0, .int .u8 0, .int .u8 0, .int .u8 0, .int .u8 0, .int .u8 0, .int .u8 0, .int .u8 0] 85) →
 Br a3
 (Calls Tryd.prog n_internal_strconv_isPowerOfTwo #[.int .i64 a2] w0 (fun e w1 => ∃ (b2 : Bool), e = .returned (.bool b2) ∧ 
 Br b2
 (Calls Tryd.prog n_math_bits_TrailingZeros #[.int .u64 (IntKind.wrap .u64 a2)] w1 (fun e w3 => ∃ (x4 : Int), e = .returned (.int .i64 x4) ∧ 
 ∃ I5 : Nat → Int → Int → World → Prop,
 (∃ n6, I5 n6 ((IntKind.wrap .u64 (0 - a1))) (65) w3) ∧
 ∀ (n6 : Nat) (us7 : Nat → Value) (x8 : Int) (x9 : Int) (w10 : World), I5 n6 x8 x9 w10 →
 Br (decide ((x8 : Int) ≥ (IntKind.wrap .u64 a2)))
 ((0 : Int) ≤ (bAnd .u64 x8 (IntKind.wrap .u64 ((IntKind.wrap .u64 a2) - 1))) ∧ (bAnd .u64 x8 (IntKind.wrap .u64 ((IntKind.wrap .u64 a2) - 1))) < ((((ByteArray.mk #[48, 49, 50, 51, 52, 53, 54, 55, 56, 57, 97, 98, 99, 100, 101, 102, 103, 104, 105, 106, 107, 108, 109, 110, 111, 112, 113, 114, 115, 116, 117, 118, 119, 120, 121, 122])).size : Nat) : Int) ∧ (0 : Int) ≤ (IntKind.wrap .i64 (x9 - 1)) ∧ ((IntKind.wrap .i64 (x9 - 1)) : Int) < ((65 : Nat) : Int) ∧ (true = true ∧ Wr w10 (padd (some ⟨w.heap.size, 0, none⟩) (((IntKind.wrap .i64 (x9 - 1)) : Int).toNat * 1)) 1) ∧ (∀ w12 : World, w12 = setP w10 (padd (some ⟨w.heap.size, 0, none⟩) (((IntKind.wrap .i64 (x9 - 1)) : Int).toNat * 1)) [.int .u8 ((((ByteArray.mk #[48, 49, 50, 51, 52, 53, 54, 55, 56, 57, 97, 98, 99, 100, 101, 102, 103, 104, 105, 106, 107, 108, 109, 110, 111, 112, 113, 114, 115, 116, 117, 118, 119, 120, 121, 122])).data.toList.getD ((bAnd .u64 x8 (IntKind.wrap .u64 ((IntKind.wrap .u64 a2) - 1))) : Int).toNat 0).toNat : Nat)] →
 AndL (ngC (IntKind.wrap .u64 x4)) (∃ n11, n11 < n6 ∧ I5 n11 (((x8 : Int).fdiv (2 ^ (min ((IntKind.wrap .u64 x4) : Int).toNat 64)))) ((IntKind.wrap .i64 (x9 - 1))) w12)))
 ((0 : Int) ≤ x8 ∧ x8 < ((((ByteArray.mk #[48, 49, 50, 51, 52, 53, 54, 55, 56, 57, 97, 98, 99, 100, 101, 102, 103, 104, 105, 106, 107, 108, 109, 110, 111, 112, 113, 114, 115, 116, 117, 118, 119, 120, 121, 122])).size : Nat) : Int) ∧ (0 : Int) ≤ (IntKind.wrap .i64 (x9 - 1)) ∧ ((IntKind.wrap .i64 (x9 - 1)) : Int) < ((65 : Nat) : Int) ∧ (true = true ∧ Wr w10 (padd (some ⟨w.heap.size, 0, none⟩) (((IntKind.wrap .i64 (x9 - 1)) : Int).toNat * 1)) 1) ∧ (∀ w13 : World, w13 = setP w10 (padd (some ⟨w.heap.size, 0, none⟩) (((IntKind.wrap .i64 (x9 - 1)) : Int).toNat * 1)) [.int .u8 ((((ByteArray.mk #[48, 49, 50, 51, 52, 53, 54, 55, 56, 57, 97, 98, 99, 100, 101, 102, 103, 104, 105, 106, 107, 108, 109, 110, 111, 112, 113, 114, 115, 116, 117, 118, 119, 120, 121, 122])).data.toList.getD (x8 : Int).toNat 0).toNat : Nat)] →
 Br a3
 ((0 : Int) ≤ (IntKind.wrap .i64 ((IntKind.wrap .i64 (x9 - 1)) - 1)) ∧ ((IntKind.wrap .i64 ((IntKind.wrap .i64 (x9 - 1)) - 1)) : Int) < ((65 : Nat) : Int) ∧ (true = true ∧ Wr w13 (padd (some ⟨w.heap.size, 0, none⟩) (((IntKind.wrap .i64 ((IntKind.wrap .i64 (x9 - 1)) - 1)) : Int).toNat * 1)) 1) ∧ (∀ w14 : World, w14 = setP w13 (padd (some ⟨w.heap.size, 0, none⟩) (((IntKind.wrap .i64 ((IntKind.wrap .i64 (x9 - 1)) - 1)) : Int).toNat * 1)) [.int .u8 45] →
 Br a4
 (False)
 (False)))
 (Br a4
 (False)
 (False))))))
 (∃ I15 : Nat → Int → Int → World → Prop,
 (∃ n16, I15 n16 ((IntKind.wrap .u64 (0 - a1))) (65) w1) ∧
 ∀ (n16 : Nat) (us17 : Nat → Value) (x18 : Int) (x19 : Int) (w20 : World), I15 n16 x18 x19 w20 →
 Br (decide ((x18 : Int) ≥ (IntKind.wrap .u64 a2)))
 (AndL (nzC (IntKind.wrap .u64 a2)) ((0 : Int) ≤ (IntKind.wrap .u64 (x18 - (IntKind.wrap .u64 ((IntKind.wrap .u64 (Int.tdiv x18 (IntKind.wrap .u64 a2))) * (IntKind.wrap .u64 a2))))) ∧ (IntKind.wrap .u64 (x18 - (IntKind.wrap .u64 ((IntKind.wrap .u64 (Int.tdiv x18 (IntKind.wrap .u64 a2))) * (IntKind.wrap .u64 a2))))) < ((((ByteArray.mk #[48, 49, 50, 51, 52, 53, 54, 55, 56, 57, 97, 98, 99, 100, 101, 102, 103, 104, 105, 106, 107, 108, 109, 110, 111, 112, 113, 114, 115, 116, 117, 118, 119, 120, 121, 122])).size : Nat) : Int) ∧ (0 : Int) ≤ (IntKind.wrap .i64 (x19 - 1)) ∧ ((IntKind.wrap .i64 (x19 - 1)) : Int) < ((65 : Nat) : Int) ∧ (true = true ∧ Wr w20 (padd (some ⟨w.heap.size, 0, none⟩) (((IntKind.wrap .i64 (x19 - 1)) : Int).toNat * 1)) 1) ∧ (∀ w22 : World, w22 = setP w20 (padd (some ⟨w.heap.size, 0, none⟩) (((IntKind.wrap .i64 (x19 - 1)) : Int).toNat * 1)) [.int .u8 ((((ByteArray.mk #[48, 49, 50, 51, 52, 53, 54, 55, 56, 57, 97, 98, 99, 100, 101, 102, 103, 104, 105, 106, 107, 108, 109, 110, 111, 112, 113, 114, 115, 116, 117, 118, 119, 120, 121, 122])).data.toList.getD ((IntKind.wrap .u64 (x18 - (IntKind.wrap .u64 ((IntKind.wrap .u64 (Int.tdiv x18 (IntKind.wrap .u64 a2))) * (IntKind.wrap .u64 a2))))) : Int).toNat 0).toNat : Nat)] →
 ∃ n21, n21 < n16 ∧ I15 n21 ((IntKind.wrap .u64 (Int.tdiv x18 (IntKind.wrap .u64 a2)))) ((IntKind.wrap .i64 (x19 - 1))) w22)))
 ((0 : Int) ≤ x18 ∧ x18 < ((((ByteArray.mk #[48, 49, 50, 51, 52, 53, 54, 55, 56, 57, 97, 98, 99, 100, 101, 102, 103, 104, 105, 106, 107, 108, 109, 110, 111, 112, 113, 114, 115, 116, 117, 118, 119, 120, 121, 122])).size : Nat) : Int) ∧ (0 : Int) ≤ (IntKind.wrap .i64 (x19 - 1)) ∧ ((IntKind.wrap .i64 (x19 - 1)) : Int) < ((65 : Nat) : Int) ∧ (true = true ∧ Wr w20 (padd (some ⟨w.heap.size, 0, none⟩) (((IntKind.wrap .i64 (x19 - 1)) : Int).toNat * 1)) 1) ∧ (∀ w23 : World, w23 = setP w20 (padd (some ⟨w.heap.size, 0, none⟩) (((IntKind.wrap .i64 (x19 - 1)) : Int).toNat * 1)) [.int .u8 ((((ByteArray.mk #[48, 49, 50, 51, 52, 53, 54, 55, 56, 57, 97, 98, 99, 100, 101, 102, 103, 104, 105, 106, 107, 108, 109, 110, 111, 112, 113, 114, 115, 116, 117, 118, 119, 120, 121, 122])).data.toList.getD (x18 : Int).toNat 0).toNat : Nat)] →
 Br a3
 ((0 : Int) ≤ (IntKind.wrap .i64 ((IntKind.wrap .i64 (x19 - 1)) - 1)) ∧ ((IntKind.wrap .i64 ((IntKind.wrap .i64 (x19 - 1)) - 1)) : Int) < ((65 : Nat) : Int) ∧ (true = true ∧ Wr w23 (padd (some ⟨w.heap.size, 0, none⟩) (((IntKind.wrap .i64 ((IntKind.wrap .i64 (x19 - 1)) - 1)) : Int).toNat * 1)) 1) ∧ (∀ w24 : World, w24 = setP w23 (padd (some ⟨w.heap.size, 0, none⟩) (((IntKind.wrap .i64 ((IntKind.wrap .i64 (x19 - 1)) - 1)) : Int).toNat * 1)) [.int .u8 45] →
 Br a4
 (False)
 (False)))
 (Br a4
 (False)
 (False)))))))
 (Calls Tryd.prog n_internal_strconv_isPowerOfTwo #[.int .i64 a2] w0 (fun e w25 => ∃ (b26 : Bool), e = .returned (.bool b26) ∧ 
 Br b26
 (Calls Tryd.prog n_math_bits_TrailingZeros #[.int .u64 (IntKind.wrap .u64 a2)] w25 (fun e w27 => ∃ (x28 : Int), e = .returned (.int .i64 x28) ∧ 
 ∃ I29 : Nat → Int → Int → World → Prop,
 (∃ n30, I29 n30 (a1) (65) w27) ∧
 ∀ (n30 : Nat) (us31 : Nat → Value) (x32 : Int) (x33 : Int) (w34 : World), I29 n30 x32 x33 w34 →
 Br (decide ((x32 : Int) ≥ (IntKind.wrap .u64 a2)))
 ((0 : Int) ≤ (bAnd .u64 x32 (IntKind.wrap .u64 ((IntKind.wrap .u64 a2) - 1))) ∧ (bAnd .u64 x32 (IntKind.wrap .u64 ((IntKind.wrap .u64 a2) - 1))) < ((((ByteArray.mk #[48, 49, 50, 51, 52, 53, 54, 55, 56, 57, 97, 98, 99, 100, 101, 102, 103, 104, 105, 106, 107, 108, 109, 110, 111, 112, 113, 114, 115, 116, 117, 118, 119, 120, 121, 122])).size : Nat) : Int) ∧ (0 : Int) ≤ (IntKind.wrap .i64 (x33 - 1)) ∧ ((IntKind.wrap .i64 (x33 - 1)) : Int) < ((65 : Nat) : Int) ∧ (true = true ∧ Wr w34 (padd (some ⟨w.heap.size, 0, none⟩) (((IntKind.wrap .i64 (x33 - 1)) : Int).toNat * 1)) 1) ∧ (∀ w36 : World, w36 = setP w34 (padd (some ⟨w.heap.size, 0, none⟩) (((IntKind.wrap .i64 (x33 - 1)) : Int).toNat * 1)) [.int .u8 ((((ByteArray.mk #[48, 49, 50, 51, 52, 53, 54, 55, 56, 57, 97, 98, 99, 100, 101, 102, 103, 104, 105, 106, 107, 108, 109, 110, 111, 112, 113, 114, 115, 116, 117, 118, 119, 120, 121, 122])).data.toList.getD ((bAnd .u64 x32 (IntKind.wrap .u64 ((IntKind.wrap .u64 a2) - 1))) : Int).toNat 0).toNat : Nat)] →
 AndL (ngC (IntKind.wrap .u64 x28)) (∃ n35, n35 < n30 ∧ I29 n35 (((x32 : Int).fdiv (2 ^ (min ((IntKind.wrap .u64 x28) : Int).toNat 64)))) ((IntKind.wrap .i64 (x33 - 1))) w36)))
 ((0 : Int) ≤ x32 ∧ x32 < ((((ByteArray.mk #[48, 49, 50, 51, 52, 53, 54, 55, 56, 57, 97, 98, 99, 100, 101, 102, 103, 104, 105, 106, 107, 108, 109, 110, 111, 112, 113, 114, 115, 116, 117, 118, 119, 120, 121, 122])).size : Nat) : Int) ∧ (0 : Int) ≤ (IntKind.wrap .i64 (x33 - 1)) ∧ ((IntKind.wrap .i64 (x33 - 1)) : Int) < ((65 : Nat) : Int) ∧ (true = true ∧ Wr w34 (padd (some ⟨w.heap.size, 0, none⟩) (((IntKind.wrap .i64 (x33 - 1)) : Int).toNat * 1)) 1) ∧ (∀ w37 : World, w37 = setP w34 (padd (some ⟨w.heap.size, 0, none⟩) (((IntKind.wrap .i64 (x33 - 1)) : Int).toNat * 1)) [.int .u8 ((((ByteArray.mk #[48, 49, 50, 51, 52, 53, 54, 55, 56, 57, 97, 98, 99, 100, 101, 102, 103, 104, 105, 106, 107, 108, 109, 110, 111, 112, 113, 114, 115, 116, 117, 118, 119, 120, 121, 122])).data.toList.getD (x32 : Int).toNat 0).toNat : Nat)] →
 Br a3
 ((0 : Int) ≤ (IntKind.wrap .i64 ((IntKind.wrap .i64 (x33 - 1)) - 1)) ∧ ((IntKind.wrap .i64 ((IntKind.wrap .i64 (x33 - 1)) - 1)) : Int) < ((65 : Nat) : Int) ∧ (true = true ∧ Wr w37 (padd (some ⟨w.heap.size, 0, none⟩) (((IntKind.wrap .i64 ((IntKind.wrap .i64 (x33 - 1)) - 1)) : Int).toNat * 1)) 1) ∧ (∀ w38 : World, w38 = setP w37 (padd (some ⟨w.heap.size, 0, none⟩) (((IntKind.wrap .i64 ((IntKind.wrap .i64 (x33 - 1)) - 1)) : Int).toNat * 1)) [.int .u8 45] →
 Br a4
 (False)
 (False)))
 (Br a4
 (False)
 (False))))))
 (∃ I39 : Nat → Int → Int → World → Prop,
 (∃ n40, I39 n40 (a1) (65) w25) ∧
 ∀ (n40 : Nat) (us41 : Nat → Value) (x42 : Int) (x43 : Int) (w44 : World), I39 n40 x42 x43 w44 →
 Br (decide ((x42 : Int) ≥ (IntKind.wrap .u64 a2)))
 (AndL (nzC (IntKind.wrap .u64 a2)) ((0 : Int) ≤ (IntKind.wrap .u64 (x42 - (IntKind.wrap .u64 ((IntKind.wrap .u64 (Int.tdiv x42 (IntKind.wrap .u64 a2))) * (IntKind.wrap .u64 a2))))) ∧ (IntKind.wrap .u64 (x42 - (IntKind.wrap .u64 ((IntKind.wrap .u64 (Int.tdiv x42 (IntKind.wrap .u64 a2))) * (IntKind.wrap .u64 a2))))) < ((((ByteArray.mk #[48, 49, 50, 51, 52, 53, 54, 55, 56, 57, 97, 98, 99, 100, 101, 102, 103, 104, 105, 106, 107, 108, 109, 110, 111, 112, 113, 114, 115, 116, 117, 118, 119, 120, 121, 122])).size : Nat) : Int) ∧ (0 : Int) ≤ (IntKind.wrap .i64 (x43 - 1)) ∧ ((IntKind.wrap .i64 (x43 - 1)) : Int) < ((65 : Nat) : Int) ∧ (true = true ∧ Wr w44 (padd (some ⟨w.heap.size, 0, none⟩) (((IntKind.wrap .i64 (x43 - 1)) : Int).toNat * 1)) 1) ∧ (∀ w46 : World, w46 = setP w44 (padd (some ⟨w.heap.size, 0, none⟩) (((IntKind.wrap .i64 (x43 - 1)) : Int).toNat * 1)) [.int .u8 ((((ByteArray.mk #[48, 49, 50, 51, 52, 53, 54, 55, 56, 57, 97, 98, 99, 100, 101, 102, 103, 104, 105, 106, 107, 108, 109, 110, 111, 112, 113, 114, 115, 116, 117, 118, 119, 120, 121, 122])).data.toList.getD ((IntKind.wrap .u64 (x42 - (IntKind.wrap .u64 ((IntKind.wrap .u64 (Int.tdiv x42 (IntKind.wrap .u64 a2))) * (IntKind.wrap .u64 a2))))) : Int).toNat 0).toNat : Nat)] →
 ∃ n45, n45 < n40 ∧ I39 n45 ((IntKind.wrap .u64 (Int.tdiv x42 (IntKind.wrap .u64 a2)))) ((IntKind.wrap .i64 (x43 - 1))) w46)))
 ((0 : Int) ≤ x42 ∧ x42 < ((((ByteArray.mk #[48, 49, 50, 51, 52, 53, 54, 55, 56, 57, 97, 98, 99, 100, 101, 102, 103, 104, 105, 106, 107, 108, 109, 110, 111, 112, 113, 114, 115, 116, 117, 118, 119, 120, 121, 122])).size : Nat) : Int) ∧ (0 : Int) ≤ (IntKind.wrap .i64 (x43 - 1)) ∧ ((IntKind.wrap .i64 (x43 - 1)) : Int) < ((65 : Nat) : Int) ∧ (true = true ∧ Wr w44 (padd (some ⟨w.heap.size, 0, none⟩) (((IntKind.wrap .i64 (x43 - 1)) : Int).toNat * 1)) 1) ∧ (∀ w47 : World, w47 = setP w44 (padd (some ⟨w.heap.size, 0, none⟩) (((IntKind.wrap .i64 (x43 - 1)) : Int).toNat * 1)) [.int .u8 ((((ByteArray.mk #[48, 49, 50, 51, 52, 53, 54, 55, 56, 57, 97, 98, 99, 100, 101, 102, 103, 104, 105, 106, 107, 108, 109, 110, 111, 112, 113, 114, 115, 116, 117, 118, 119, 120, 121, 122])).data.toList.getD (x42 : Int).toNat 0).toNat : Nat)] →
 Br a3
 ((0 : Int) ≤ (IntKind.wrap .i64 ((IntKind.wrap .i64 (x43 - 1)) - 1)) ∧ ((IntKind.wrap .i64 ((IntKind.wrap .i64 (x43 - 1)) - 1)) : Int) < ((65 : Nat) : Int) ∧ (true = true ∧ Wr w47 (padd (some ⟨w.heap.size, 0, none⟩) (((IntKind.wrap .i64 ((IntKind.wrap .i64 (x43 - 1)) - 1)) : Int).toNat * 1)) 1) ∧ (∀ w48 : World, w48 = setP w47 (padd (some ⟨w.heap.size, 0, none⟩) (((IntKind.wrap .i64 ((IntKind.wrap .i64 (x43 - 1)) - 1)) : Int).toNat * 1)) [.int .u8 45] →
 Br a4
 (False)
 (False)))
 (Br a4
 (False)
 (False))))))))))
theorem internal_strconv_formatBits.vc {a0 a1 a2 a3 a4 w} {R : Ending → World → Prop} (h : internal_strconv_formatBits.pre a0 a1 a2 a3 a4 w R) : Calls Tryd.prog n_internal_strconv_formatBits #[.slice a0.a a0.n a0.c, .int .u64 a1, .int .i64 a2, .bool a3, .bool a4] w R :=
  calls_of_eq (an := ⟨[(11, ⟨[(1, .int .u64), (13, .int .i64)], [], []⟩), (18, ⟨[(1, .int .u64), (13, .int .i64)], [], []⟩), (11, ⟨[(1, .int .u64), (13, .int .i64)], [], []⟩), (18, ⟨[(1, .int .u64), (13, .int .i64)], [], []⟩)], [], []⟩) (args := [.slice a0.a a0.n a0.c, .int .u64 a1, .int .i64 a2, .bool a3, .bool a4]) Tryd.noNG Tryd.mixed Tryd.func65 h (by kernel_rfl)

/- internal/strconv.log10Pow2  -/
def internal_strconv_log10Pow2.pre (a0 : Int) (w : World) (R : Ending → World → Prop) : Prop :=
 R (.returned (.int .i64 (((IntKind.wrap .i64 (a0 * 78913)) : Int).fdiv (2 ^ (min (18 : Int).toNat 64))))) w
theorem internal_strconv_log10Pow2.vc {a0 w} {R : Ending → World → Prop} (h : internal_strconv_log10Pow2.pre a0 w R) : Calls Tryd.prog n_internal_strconv_log10Pow2 #[.int .i64 a0] w R :=
  calls_of_eq (an := ⟨[], [], []⟩) (args := [.int .i64 a0]) Tryd.noNG Tryd.mixed Tryd.func66 h (by kernel_rfl)

/- math/bits.Len64  -/
def math_bits_Len64.pre (a0 : Int) (w : World) (R : Ending → World → Prop) : Prop :=
 Br (decide ((a0 : Int) ≥ 4294967296))
 (Br (decide ((((a0 : Int).fdiv (2 ^ (min (32 : Int).toNat 64))) : Int) ≥ 65536))
 (Br (decide ((((((a0 : Int).fdiv (2 ^ (min (32 : Int).toNat 64))) : Int).fdiv (2 ^ (min (16 : Int).toNat 64))) : Int) ≥ 256))
 ((0 : Int) ≤ (IntKind.wrap .u8 ((((((a0 : Int).fdiv (2 ^ (min (32 : Int).toNat 64))) : Int).fdiv (2 ^ (min (16 : Int).toNat 64))) : Int).fdiv (2 ^ (min (8 : Int).toNat 64)))) ∧ (IntKind.wrap .u8 ((((((a0 : Int).fdiv (2 ^ (min (32 : Int).toNat 64))) : Int).fdiv (2 ^ (min (16 : Int).toNat 64))) : Int).fdiv (2 ^ (min (8 : Int).toNat 64)))) < ((((ByteArray.mk #[0, 1, 2, 2, 3, 3, 3, 3, 4, 4, 4, 4, 4, 4, 4, 4, 5, 5, 5, 5, 5, 5, 5, 5, 5, 5, 5, 5, 5, 5, 5, 5, 6, 6, 6, 6, 6, 6, 6, 6, 6, 6, 6, 6, 6, 6, 6, 6, 6, 6, 6, 6, 6, 6, 6, 6, 6, 6, 6, 6, 6, 6, 6, 6, 7, 7, 7, 7, 7, 7, 7, 7, 7, 7, 7, 7, 7, 7, 7, 7, 7, 7, 7, 7, 7, 7, 7, 7, 7, 7, 7, 7, 7, 7, 7, 7, 7, 7, 7, 7, 7, 7, 7, 7, 7, 7, 7, 7, 7, 7, 7, 7, 7, 7, 7, 7, 7, 7, 7, 7, 7, 7, 7, 7, 7, 7, 7, 7, 8, 8, 8, 8, 8, 8, 8, 8, 8, 8, 8, 8, 8, 8, 8, 8, 8, 8, 8, 8, 8, 8, 8, 8, 8, 8, 8, 8, 8, 8, 8, 8, 8, 8, 8, 8, 8, 8, 8, 8, 8, 8, 8, 8, 8, 8, 8, 8, 8, 8, 8, 8, 8, 8, 8, 8, 8, 8, 8, 8, 8, 8, 8, 8, 8, 8, 8, 8, 8, 8, 8, 8, 8, 8, 8, 8, 8, 8, 8, 8, 8, 8, 8, 8, 8, 8, 8, 8, 8, 8, 8, 8, 8, 8, 8, 8, 8, 8, 8, 8, 8, 8, 8, 8, 8, 8, 8, 8, 8, 8, 8, 8, 8, 8, 8, 8, 8, 8, 8, 8, 8, 8, 8, 8, 8, 8, 8, 8])).size : Nat) : Int) ∧ R (.returned (.int .i64 (IntKind.wrap .i64 ((IntKind.wrap .i64 ((IntKind.wrap .i64 (32 + 16)) + 8)) + (IntKind.wrap .i64 ((((ByteArray.mk #[0, 1, 2, 2, 3, 3, 3, 3, 4, 4, 4, 4, 4, 4, 4, 4, 5, 5, 5, 5, 5, 5, 5, 5, 5, 5, 5, 5, 5, 5, 5, 5, 6, 6, 6, 6, 6, 6, 6, 6, 6, 6, 6, 6, 6, 6, 6, 6, 6, 6, 6, 6, 6, 6, 6, 6, 6, 6, 6, 6, 6, 6, 6, 6, 7, 7, 7, 7, 7, 7, 7, 7, 7, 7, 7, 7, 7, 7, 7, 7, 7, 7, 7, 7, 7, 7, 7, 7, 7, 7, 7, 7, 7, 7, 7, 7, 7, 7, 7, 7, 7, 7, 7, 7, 7, 7, 7, 7, 7, 7, 7, 7, 7, 7, 7, 7, 7, 7, 7, 7, 7, 7, 7, 7, 7, 7, 7, 7, 8, 8, 8, 8, 8, 8, 8, 8, 8, 8, 8, 8, 8, 8, 8, 8, 8, 8, 8, 8, 8, 8, 8, 8, 8, 8, 8, 8, 8, 8, 8, 8, 8, 8, 8, 8, 8, 8, 8, 8, 8, 8, 8, 8, 8, 8, 8, 8, 8, 8, 8, 8, 8, 8, 8, 8, 8, 8, 8, 8, 8, 8, 8, 8, 8, 8, 8, 8, 8, 8, 8, 8, 8, 8, 8, 8, 8, 8, 8, 8, 8, 8, 8, 8, 8, 8, 8, 8, 8, 8, 8, 8, 8, 8, 8, 8, 8, 8, 8, 8, 8, 8, 8, 8, 8, 8, 8, 8, 8, 8, 8, 8, 8, 8, 8, 8, 8, 8, 8, 8, 8, 8, 8, 8, 8, 8, 8, 8])).data.toList.getD ((IntKind.wrap .u8 ((((((a0 : Int).fdiv (2 ^ (min (32 : Int).toNat 64))) : Int).fdiv (2 ^ (min (16 : Int).toNat 64))) : Int).fdiv (2 ^ (min (8 : Int).toNat 64)))) : Int).toNat 0).toNat : Nat)))))) w)
 ((0 : Int) ≤ (IntKind.wrap .u8 ((((a0 : Int).fdiv (2 ^ (min (32 : Int).toNat 64))) : Int).fdiv (2 ^ (min (16 : Int).toNat 64)))) ∧ (IntKind.wrap .u8 ((((a0 : Int).fdiv (2 ^ (min (32 : Int).toNat 64))) : Int).fdiv (2 ^ (min (16 : Int).toNat 64)))) < ((((ByteArray.mk #[0, 1, 2, 2, 3, 3, 3, 3, 4, 4, 4, 4, 4, 4, 4, 4, 5, 5, 5, 5, 5, 5, 5, 5, 5, 5, 5, 5, 5, 5, 5, 5, 6, 6, 6, 6, 6, 6, 6, 6, 6, 6, 6, 6, 6, 6, 6, 6, 6, 6, 6, 6, 6, 6, 6, 6, 6, 6, 6, 6, 6, 6, 6, 6, 7, 7, 7, 7, 7, 7, 7, 7, 7, 7, 7, 7, 7, 7, 7, 7, 7, 7, 7, 7, 7, 7, 7, 7, 7, 7, 7, 7, 7, 7, 7, 7, 7, 7, 7, 7, 7, 7, 7, 7, 7, 7, 7, 7, 7, 7, 7, 7, 7, 7, 7, 7, 7, 7, 7, 7, 7, 7, 7, 7, 7, 7, 7, 7, 8, 8, 8, 8, 8, 8, 8, 8, 8, 8, 8, 8, 8, 8, 8, 8, 8, 8, 8, 8, 8, 8, 8, 8, 8, 8, 8, 8, 8, 8, 8, 8, 8, 8, 8, 8, 8, 8, 8, 8, 8, 8, 8, 8, 8, 8, 8, 8, 8, 8, 8, 8, 8, 8, 8, 8, 8, 8, 8, 8, 8, 8, 8, 8, 8, 8, 8, 8, 8, 8, 8, 8, 8, 8, 8, 8, 8, 8, 8, 8, 8, 8, 8, 8, 8, 8, 8, 8, 8, 8, 8, 8, 8, 8, 8, 8, 8, 8, 8, 8, 8, 8, 8, 8, 8, 8, 8, 8, 8, 8, 8, 8, 8, 8, 8, 8, 8, 8, 8, 8, 8, 8, 8, 8, 8, 8, 8, 8])).size : Nat) : Int) ∧ R (.returned (.int .i64 (IntKind.wrap .i64 ((IntKind.wrap .i64 (32 + 16)) + (IntKind.wrap .i64 ((((ByteArray.mk #[0, 1, 2, 2, 3, 3, 3, 3, 4, 4, 4, 4, 4, 4, 4, 4, 5, 5, 5, 5, 5, 5, 5, 5, 5, 5, 5, 5, 5, 5, 5, 5, 6, 6, 6, 6, 6, 6, 6, 6, 6, 6, 6, 6, 6, 6, 6, 6, 6, 6, 6, 6, 6, 6, 6, 6, 6, 6, 6, 6, 6, 6, 6, 6, 7, 7, 7, 7, 7, 7, 7, 7, 7, 7, 7, 7, 7, 7, 7, 7, 7, 7, 7, 7, 7, 7, 7, 7, 7, 7, 7, 7, 7, 7, 7, 7, 7, 7, 7, 7, 7, 7, 7, 7, 7, 7, 7, 7, 7, 7, 7, 7, 7, 7, 7, 7, 7, 7, 7, 7, 7, 7, 7, 7, 7, 7, 7, 7, 8, 8, 8, 8, 8, 8, 8, 8, 8, 8, 8, 8, 8, 8, 8, 8, 8, 8, 8, 8, 8, 8, 8, 8, 8, 8, 8, 8, 8, 8, 8, 8, 8, 8, 8, 8, 8, 8, 8, 8, 8, 8, 8, 8, 8, 8, 8, 8, 8, 8, 8, 8, 8, 8, 8, 8, 8, 8, 8, 8, 8, 8, 8, 8, 8, 8, 8, 8, 8, 8, 8, 8, 8, 8, 8, 8, 8, 8, 8, 8, 8, 8, 8, 8, 8, 8, 8, 8, 8, 8, 8, 8, 8, 8, 8, 8, 8, 8, 8, 8, 8, 8, 8, 8, 8, 8, 8, 8, 8, 8, 8, 8, 8, 8, 8, 8, 8, 8, 8, 8, 8, 8, 8, 8, 8, 8, 8, 8])).data.toList.getD ((IntKind.wrap .u8 ((((a0 : Int).fdiv (2 ^ (min (32 : Int).toNat 64))) : Int).fdiv (2 ^ (min (16 : Int).toNat 64)))) : Int).toNat 0).toNat : Nat)))))) w))
 (Br (decide ((((a0 : Int).fdiv (2 ^ (min (32 : Int).toNat 64))) : Int) ≥ 256))
 ((0 : Int) ≤ (IntKind.wrap .u8 ((((a0 : Int).fdiv (2 ^ (min (32 : Int).toNat 64))) : Int).fdiv (2 ^ (min (8 : Int).toNat 64)))) ∧ (IntKind.wrap .u8 ((((a0 : Int).fdiv (2 ^ (min (32 : Int).toNat 64))) : Int).fdiv (2 ^ (min (8 : Int).toNat 64)))) < ((((ByteArray.mk #[0, 1, 2, 2, 3, 3, 3, 3, 4, 4, 4, 4, 4, 4, 4, 4, 5, 5, 5, 5, 5, 5, 5, 5, 5, 5, 5, 5, 5, 5, 5, 5, 6, 6, 6, 6, 6, 6, 6, 6, 6, 6, 6, 6, 6, 6, 6, 6, 6, 6, 6, 6, 6, 6, 6, 6, 6, 6, 6, 6, 6, 6, 6, 6, 7, 7, 7, 7, 7, 7, 7, 7, 7, 7, 7, 7, 7, 7, 7, 7, 7, 7, 7, 7, 7, 7, 7, 7, 7, 7, 7, 7, 7, 7, 7, 7, 7, 7, 7, 7, 7, 7, 7, 7, 7, 7, 7, 7, 7, 7, 7, 7, 7, 7, 7, 7, 7, 7, 7, 7, 7, 7, 7, 7, 7, 7, 7, 7, 8, 8, 8, 8, 8, 8, 8, 8, 8, 8, 8, 8, 8, 8, 8, 8, 8, 8, 8, 8, 8, 8, 8, 8, 8, 8, 8, 8, 8, 8, 8, 8, 8, 8, 8, 8, 8, 8, 8, 8, 8, 8, 8, 8, 8, 8, 8, 8, 8, 8, 8, 8, 8, 8, 8, 8, 8, 8, 8, 8, 8, 8, 8, 8, 8, 8, 8, 8, 8, 8, 8, 8, 8, 8, 8, 8, 8, 8, 8, 8, 8, 8, 8, 8, 8, 8, 8, 8, 8, 8, 8, 8, 8, 8, 8, 8, 8, 8, 8, 8, 8, 8, 8, 8, 8, 8, 8, 8, 8, 8, 8, 8, 8, 8, 8, 8, 8, 8, 8, 8, 8, 8, 8, 8, 8, 8, 8, 8])).size : Nat) : Int) ∧ R (.returned (.int .i64 (IntKind.wrap .i64 ((IntKind.wrap .i64 (32 + 8)) + (IntKind.wrap .i64 ((((ByteArray.mk #[0, 1, 2, 2, 3, 3, 3, 3, 4, 4, 4, 4, 4, 4, 4, 4, 5, 5, 5, 5, 5, 5, 5, 5, 5, 5, 5, 5, 5, 5, 5, 5, 6, 6, 6, 6, 6, 6, 6, 6, 6, 6, 6, 6, 6, 6, 6, 6, 6, 6, 6, 6, 6, 6, 6, 6, 6, 6, 6, 6, 6, 6, 6, 6, 7, 7, 7, 7, 7, 7, 7, 7, 7, 7, 7, 7, 7, 7, 7, 7, 7, 7, 7, 7, 7, 7, 7, 7, 7, 7, 7, 7, 7, 7, 7, 7, 7, 7, 7, 7, 7, 7, 7, 7, 7, 7, 7, 7, 7, 7, 7, 7, 7, 7, 7, 7, 7, 7, 7, 7, 7, 7, 7, 7, 7, 7, 7, 7, 8, 8, 8, 8, 8, 8, 8, 8, 8, 8, 8, 8, 8, 8, 8, 8, 8, 8, 8, 8, 8, 8, 8, 8, 8, 8, 8, 8, 8, 8, 8, 8, 8, 8, 8, 8, 8, 8, 8, 8, 8, 8, 8, 8, 8, 8, 8, 8, 8, 8, 8, 8, 8, 8, 8, 8, 8, 8, 8, 8, 8, 8, 8, 8, 8, 8, 8, 8, 8, 8, 8, 8, 8, 8, 8, 8, 8, 8, 8, 8, 8, 8, 8, 8, 8, 8, 8, 8, 8, 8, 8, 8, 8, 8, 8, 8, 8, 8, 8, 8, 8, 8, 8, 8, 8, 8, 8, 8, 8, 8, 8, 8, 8, 8, 8, 8, 8, 8, 8, 8, 8, 8, 8, 8, 8, 8, 8, 8])).data.toList.getD ((IntKind.wrap .u8 ((((a0 : Int).fdiv (2 ^ (min (32 : Int).toNat 64))) : Int).fdiv (2 ^ (min (8 : Int).toNat 64)))) : Int).toNat 0).toNat : Nat)))))) w)
 ((0 : Int) ≤ (IntKind.wrap .u8 ((a0 : Int).fdiv (2 ^ (min (32 : Int).toNat 64)))) ∧ (IntKind.wrap .u8 ((a0 : Int).fdiv (2 ^ (min (32 : Int).toNat 64)))) < ((((ByteArray.mk #[0, 1, 2, 2, 3, 3, 3, 3, 4, 4, 4, 4, 4, 4, 4, 4, 5, 5, 5, 5, 5, 5, 5, 5, 5, 5, 5, 5, 5, 5, 5, 5, 6, 6, 6, 6, 6, 6, 6, 6, 6, 6, 6, 6, 6, 6, 6, 6, 6, 6, 6, 6, 6, 6, 6, 6, 6, 6, 6, 6, 6, 6, 6, 6, 7, 7, 7, 7, 7, 7, 7, 7, 7, 7, 7, 7, 7, 7, 7, 7, 7, 7, 7, 7, 7, 7, 7, 7, 7, 7, 7, 7, 7, 7, 7, 7, 7, 7, 7, 7, 7, 7, 7, 7, 7, 7, 7, 7, 7, 7, 7, 7, 7, 7, 7, 7, 7, 7, 7, 7, 7, 7, 7, 7, 7, 7, 7, 7, 8, 8, 8, 8, 8, 8, 8, 8, 8, 8, 8, 8, 8, 8, 8, 8, 8, 8, 8, 8, 8, 8, 8, 8, 8, 8, 8, 8, 8, 8, 8, 8, 8, 8, 8, 8, 8, 8, 8, 8, 8, 8, 8, 8, 8, 8, 8, 8, 8, 8, 8, 8, 8, 8, 8, 8, 8, 8, 8, 8, 8, 8, 8, 8, 8, 8, 8, 8, 8, 8, 8, 8, 8, 8, 8, 8, 8, 8, 8, 8, 8, 8, 8, 8, 8, 8, 8, 8, 8, 8, 8, 8, 8, 8, 8, 8, 8, 8, 8, 8, 8, 8, 8, 8, 8, 8, 8, 8, 8, 8, 8, 8, 8, 8, 8, 8, 8, 8, 8, 8, 8, 8, 8, 8, 8, 8, 8, 8])).size : Nat) : Int) ∧ R (.returned (.int .i64 (IntKind.wrap .i64 (32 + (IntKind.wrap .i64 ((((ByteArray.mk #[0, 1, 2, 2, 3, 3, 3, 3, 4, 4, 4, 4, 4, 4, 4, 4, 5, 5, 5, 5, 5, 5, 5, 5, 5, 5, 5, 5, 5, 5, 5, 5, 6, 6, 6, 6, 6, 6, 6, 6, 6, 6, 6, 6, 6, 6, 6, 6, 6, 6, 6, 6, 6, 6, 6, 6, 6, 6, 6, 6, 6, 6, 6, 6, 7, 7, 7, 7, 7, 7, 7, 7, 7, 7, 7, 7, 7, 7, 7, 7, 7, 7, 7, 7, 7, 7, 7, 7, 7, 7, 7, 7, 7, 7, 7, 7, 7, 7, 7, 7, 7, 7, 7, 7, 7, 7, 7, 7, 7, 7, 7, 7, 7, 7, 7, 7, 7, 7, 7, 7, 7, 7, 7, 7, 7, 7, 7, 7, 8, 8, 8, 8, 8, 8, 8, 8, 8, 8, 8, 8, 8, 8, 8, 8, 8, 8, 8, 8, 8, 8, 8, 8, 8, 8, 8, 8, 8, 8, 8, 8, 8, 8, 8, 8, 8, 8, 8, 8, 8, 8, 8, 8, 8, 8, 8, 8, 8, 8, 8, 8, 8, 8, 8, 8, 8, 8, 8, 8, 8, 8, 8, 8, 8, 8, 8, 8, 8, 8, 8, 8, 8, 8, 8, 8, 8, 8, 8, 8, 8, 8, 8, 8, 8, 8, 8, 8, 8, 8, 8, 8, 8, 8, 8, 8, 8, 8, 8, 8, 8, 8, 8, 8, 8, 8, 8, 8, 8, 8, 8, 8, 8, 8, 8, 8, 8, 8, 8, 8, 8, 8, 8, 8, 8, 8, 8, 8])).data.toList.getD ((IntKind.wrap .u8 ((a0 : Int).fdiv (2 ^ (min (32 : Int).toNat 64)))) : Int).toNat 0).toNat : Nat)))))) w)))
 (Br (decide ((a0 : Int) ≥ 65536))
 (Br (decide ((((a0 : Int).fdiv (2 ^ (min (16 : Int).toNat 64))) : Int) ≥ 256))
 ((0 : Int) ≤ (IntKind.wrap .u8 ((((a0 : Int).fdiv (2 ^ (min (16 : Int).toNat 64))) : Int).fdiv (2 ^ (min (8 : Int).toNat 64)))) ∧ (IntKind.wrap .u8 ((((a0 : Int).fdiv (2 ^ (min (16 : Int).toNat 64))) : Int).fdiv (2 ^ (min (8 : Int).toNat 64)))) < ((((ByteArray.mk #[0, 1, 2, 2, 3, 3, 3, 3, 4, 4, 4, 4, 4, 4, 4, 4, 5, 5, 5, 5, 5, 5, 5, 5, 5, 5, 5, 5, 5, 5, 5, 5, 6, 6, 6, 6, 6, 6, 6, 6, 6, 6, 6, 6, 6, 6, 6, 6, 6, 6, 6, 6, 6, 6, 6, 6, 6, 6, 6, 6, 6, 6, 6, 6, 7, 7, 7, 7, 7, 7, 7, 7, 7, 7, 7, 7, 7, 7, 7, 7, 7, 7, 7, 7, 7, 7, 7, 7, 7, 7, 7, 7, 7, 7, 7, 7, 7, 7, 7, 7, 7, 7, 7, 7, 7, 7, 7, 7, 7, 7, 7, 7, 7, 7, 7, 7, 7, 7, 7, 7, 7, 7, 7, 7, 7, 7, 7, 7, 8, 8, 8, 8, 8, 8, 8, 8, 8, 8, 8, 8, 8, 8, 8, 8, 8, 8, 8, 8, 8, 8, 8, 8, 8, 8, 8, 8, 8, 8, 8, 8, 8, 8, 8, 8, 8, 8, 8, 8, 8, 8, 8, 8, 8, 8, 8, 8, 8, 8, 8, 8, 8, 8, 8, 8, 8, 8, 8, 8, 8, 8, 8, 8, 8, 8, 8, 8, 8, 8, 8, 8, 8, 8, 8, 8, 8, 8, 8, 8, 8, 8, 8, 8, 8, 8, 8, 8, 8, 8, 8, 8, 8, 8, 8, 8, 8, 8, 8, 8, 8, 8, 8, 8, 8, 8, 8, 8, 8, 8, 8, 8, 8, 8, 8, 8, 8, 8, 8, 8, 8, 8, 8, 8, 8, 8, 8, 8])).size : Nat) : Int) ∧ R (.returned (.int .i64 (IntKind.wrap .i64 ((IntKind.wrap .i64 ((IntKind.wrap .i64 (0 + 16)) + 8)) + (IntKind.wrap .i64 ((((ByteArray.mk #[0, 1, 2, 2, 3, 3, 3, 3, 4, 4, 4, 4, 4, 4, 4, 4, 5, 5, 5, 5, 5, 5, 5, 5, 5, 5, 5, 5, 5, 5, 5, 5, 6, 6, 6, 6, 6, 6, 6, 6, 6, 6, 6, 6, 6, 6, 6, 6, 6, 6, 6, 6, 6, 6, 6, 6, 6, 6, 6, 6, 6, 6, 6, 6, 7, 7, 7, 7, 7, 7, 7, 7, 7, 7, 7, 7, 7, 7, 7, 7, 7, 7, 7, 7, 7, 7, 7, 7, 7, 7, 7, 7, 7, 7, 7, 7, 7, 7, 7, 7, 7, 7, 7, 7, 7, 7, 7, 7, 7, 7, 7, 7, 7, 7, 7, 7, 7, 7, 7, 7, 7, 7, 7, 7, 7, 7, 7, 7, 8, 8, 8, 8, 8, 8, 8, 8, 8, 8, 8, 8, 8, 8, 8, 8, 8, 8, 8, 8, 8, 8, 8, 8, 8, 8, 8, 8, 8, 8, 8, 8, 8, 8, 8, 8, 8, 8, 8, 8, 8, 8, 8, 8, 8, 8, 8, 8, 8, 8, 8, 8, 8, 8, 8, 8, 8, 8, 8, 8, 8, 8, 8, 8, 8, 8, 8, 8, 8, 8, 8, 8, 8, 8, 8, 8, 8, 8, 8, 8, 8, 8, 8, 8, 8, 8, 8, 8, 8, 8, 8, 8, 8, 8, 8, 8, 8, 8, 8, 8, 8, 8, 8, 8, 8, 8, 8, 8, 8, 8, 8, 8, 8, 8, 8, 8, 8, 8, 8, 8, 8, 8, 8, 8, 8, 8, 8, 8])).data.toList.getD ((IntKind.wrap .u8 ((((a0 : Int).fdiv (2 ^ (min (16 : Int).toNat 64))) : Int).fdiv (2 ^ (min (8 : Int).toNat 64)))) : Int).toNat 0).toNat : Nat)))))) w)
 ((0 : Int) ≤ (IntKind.wrap .u8 ((a0 : Int).fdiv (2 ^ (min (16 : Int).toNat 64)))) ∧ (IntKind.wrap .u8 ((a0 : Int).fdiv (2 ^ (min (16 : Int).toNat 64)))) < ((((ByteArray.mk #[0, 1, 2, 2, 3, 3, 3, 3, 4, 4, 4, 4, 4, 4, 4, 4, 5, 5, 5, 5, 5, 5, 5, 5, 5, 5, 5, 5, 5, 5, 5, 5, 6, 6, 6, 6, 6, 6, 6, 6, 6, 6, 6, 6, 6, 6, 6, 6, 6, 6, 6, 6, 6, 6, 6, 6, 6, 6, 6, 6, 6, 6, 6, 6, 7, 7, 7, 7, 7, 7, 7, 7, 7, 7, 7, 7, 7, 7, 7, 7, 7, 7, 7, 7, 7, 7, 7, 7, 7, 7, 7, 7, 7, 7, 7, 7, 7, 7, 7, 7, 7, 7, 7, 7, 7, 7, 7, 7, 7, 7, 7, 7, 7, 7, 7, 7, 7, 7, 7, 7, 7, 7, 7, 7, 7, 7, 7, 7, 8, 8, 8, 8, 8, 8, 8, 8, 8, 8, 8, 8, 8, 8, 8, 8, 8, 8, 8, 8, 8, 8, 8, 8, 8, 8, 8, 8, 8, 8, 8, 8, 8, 8, 8, 8, 8, 8, 8, 8, 8, 8, 8, 8, 8, 8, 8, 8, 8, 8, 8, 8, 8, 8, 8, 8, 8, 8, 8, 8, 8, 8, 8, 8, 8, 8, 8, 8, 8, 8, 8, 8, 8, 8, 8, 8, 8, 8, 8, 8, 8, 8, 8, 8, 8, 8, 8, 8, 8, 8, 8, 8, 8, 8, 8, 8, 8, 8, 8, 8, 8, 8, 8, 8, 8, 8, 8, 8, 8, 8, 8, 8, 8, 8, 8, 8, 8, 8, 8, 8, 8, 8, 8, 8, 8, 8, 8, 8])).size : Nat) : Int) ∧ R (.returned (.int .i64 (IntKind.wrap .i64 ((IntKind.wrap .i64 (0 + 16)) + (IntKind.wrap .i64 ((((ByteArray.mk #[0, 1, 2, 2, 3, 3, 3, 3, 4, 4, 4, 4, 4, 4, 4, 4, 5, 5, 5, 5, 5, 5, 5, 5, 5, 5, 5, 5, 5, 5, 5, 5, 6, 6, 6, 6, 6, 6, 6, 6, 6, 6, 6, 6, 6, 6, 6, 6, 6, 6, 6, 6, 6, 6, 6, 6, 6, 6, 6, 6, 6, 6, 6, 6, 7, 7, 7, 7, 7, 7, 7, 7, 7, 7, 7, 7, 7, 7, 7, 7, 7, 7, 7, 7, 7, 7, 7, 7, 7, 7, 7, 7, 7, 7, 7, 7, 7, 7, 7, 7, 7, 7, 7, 7, 7, 7, 7, 7, 7, 7, 7, 7, 7, 7, 7, 7, 7, 7, 7, 7, 7, 7, 7, 7, 7, 7, 7, 7, 8, 8, 8, 8, 8, 8, 8, 8, 8, 8, 8, 8, 8, 8, 8, 8, 8, 8, 8, 8, 8, 8, 8, 8, 8, 8, 8, 8, 8, 8, 8, 8, 8, 8, 8, 8, 8, 8, 8, 8, 8, 8, 8, 8, 8, 8, 8, 8, 8, 8, 8, 8, 8, 8, 8, 8, 8, 8, 8, 8, 8, 8, 8, 8, 8, 8, 8, 8, 8, 8, 8, 8, 8, 8, 8, 8, 8, 8, 8, 8, 8, 8, 8, 8, 8, 8, 8, 8, 8, 8, 8, 8, 8, 8, 8, 8, 8, 8, 8, 8, 8, 8, 8, 8, 8, 8, 8, 8, 8, 8, 8, 8, 8, 8, 8, 8, 8, 8, 8, 8, 8, 8, 8, 8, 8, 8, 8, 8])).data.toList.getD ((IntKind.wrap .u8 ((a0 : Int).fdiv (2 ^ (min (16 : Int).toNat 64)))) : Int).toNat 0).toNat : Nat)))))) w))
 (Br (decide ((a0 : Int) ≥ 256))
 ((0 : Int) ≤ (IntKind.wrap .u8 ((a0 : Int).fdiv (2 ^ (min (8 : Int).toNat 64)))) ∧ (IntKind.wrap .u8 ((a0 : Int).fdiv (2 ^ (min (8 : Int).toNat 64)))) < ((((ByteArray.mk #[0, 1, 2, 2, 3, 3, 3, 3, 4, 4, 4, 4, 4, 4, 4, 4, 5, 5, 5, 5, 5, 5, 5, 5, 5, 5, 5, 5, 5, 5, 5, 5, 6, 6, 6, 6, 6, 6, 6, 6, 6, 6, 6, 6, 6, 6, 6, 6, 6, 6, 6, 6, 6, 6, 6, 6, 6, 6, 6, 6, 6, 6, 6, 6, 7, 7, 7, 7, 7, 7, 7, 7, 7, 7, 7, 7, 7, 7, 7, 7, 7, 7, 7, 7, 7, 7, 7, 7, 7, 7, 7, 7, 7, 7, 7, 7, 7, 7, 7, 7, 7, 7, 7, 7, 7, 7, 7, 7, 7, 7, 7, 7, 7, 7, 7, 7, 7, 7, 7, 7, 7, 7, 7, 7, 7, 7, 7, 7, 8, 8, 8, 8, 8, 8, 8, 8, 8, 8, 8, 8, 8, 8, 8, 8, 8, 8, 8, 8, 8, 8, 8, 8, 8, 8, 8, 8, 8, 8, 8, 8, 8, 8, 8, 8, 8, 8, 8, 8, 8, 8, 8, 8, 8, 8, 8, 8, 8, 8, 8, 8, 8, 8, 8, 8, 8, 8, 8, 8, 8, 8, 8, 8, 8, 8, 8, 8, 8, 8, 8, 8, 8, 8, 8, 8, 8, 8, 8, 8, 8, 8, 8, 8, 8, 8, 8, 8, 8, 8, 8, 8, 8, 8, 8, 8, 8, 8, 8, 8, 8, 8, 8, 8, 8, 8, 8, 8, 8, 8, 8, 8, 8, 8, 8, 8, 8, 8, 8, 8, 8, 8, 8, 8, 8, 8, 8, 8])).size : Nat) : Int) ∧ R (.returned (.int .i64 (IntKind.wrap .i64 ((IntKind.wrap .i64 (0 + 8)) + (IntKind.wrap .i64 ((((ByteArray.mk #[0, 1, 2, 2, 3, 3, 3, 3, 4, 4, 4, 4, 4, 4, 4, 4, 5, 5, 5, 5, 5, 5, 5, 5, 5, 5, 5, 5, 5, 5, 5, 5, 6, 6, 6, 6, 6, 6, 6, 6, 6, 6, 6, 6, 6, 6, 6, 6, 6, 6, 6, 6, 6, 6, 6, 6, 6, 6, 6, 6, 6, 6, 6, 6, 7, 7, 7, 7, 7, 7, 7, 7, 7, 7, 7, 7, 7, 7, 7, 7, 7, 7, 7, 7, 7, 7, 7, 7, 7, 7, 7, 7, 7, 7, 7, 7, 7, 7, 7, 7, 7, 7, 7, 7, 7, 7, 7, 7, 7, 7, 7, 7, 7, 7, 7, 7, 7, 7, 7, 7, 7, 7, 7, 7, 7, 7, 7, 7, 8, 8, 8, 8, 8, 8, 8, 8, 8, 8, 8, 8, 8, 8, 8, 8, 8, 8, 8, 8, 8, 8, 8, 8, 8, 8, 8, 8, 8, 8, 8, 8, 8, 8, 8, 8, 8, 8, 8, 8, 8, 8, 8, 8, 8, 8, 8, 8, 8, 8, 8, 8, 8, 8, 8, 8, 8, 8, 8, 8, 8, 8, 8, 8, 8, 8, 8, 8, 8, 8, 8, 8, 8, 8, 8, 8, 8, 8, 8, 8, 8, 8, 8, 8, 8, 8, 8, 8, 8, 8, 8, 8, 8, 8, 8, 8, 8, 8, 8, 8, 8, 8, 8, 8, 8, 8, 8, 8, 8, 8, 8, 8, 8, 8, 8, 8, 8, 8, 8, 8, 8, 8, 8, 8, 8, 8, 8, 8])).data.toList.getD ((IntKind.wrap .u8 ((a0 : Int).fdiv (2 ^ (min (8 : Int).toNat 64)))) : Int).toNat 0).toNat : Nat)))))) w)
 ((0 : Int) ≤ (IntKind.wrap .u8 a0) ∧ (IntKind.wrap .u8 a0) < ((((ByteArray.mk #[0, 1, 2, 2, 3, 3, 3, 3, 4, 4, 4, 4, 4, 4, 4, 4, 5, 5, 5, 5, 5, 5, 5, 5, 5, 5, 5, 5, 5, 5, 5, 5, 6, 6, 6, 6, 6, 6, 6, 6, 6, 6, 6, 6, 6, 6, 6, 6, 6, 6, 6, 6, 6, 6, 6, 6, 6, 6, 6, 6, 6, 6, 6, 6, 7, 7, 7, 7, 7, 7, 7, 7, 7, 7, 7, 7, 7, 7, 7, 7, 7, 7, 7, 7, 7, 7, 7, 7, 7, 7, 7, 7, 7, 7, 7, 7, 7, 7, 7, 7, 7, 7, 7, 7, 7, 7, 7, 7, 7, 7, 7, 7, 7, 7, 7, 7, 7, 7, 7, 7, 7, 7, 7, 7, 7, 7, 7, 7, 8, 8, 8, 8, 8, 8, 8, 8, 8, 8, 8, 8, 8, 8, 8, 8, 8, 8, 8, 8, 8, 8, 8, 8, 8, 8, 8, 8, 8, 8, 8, 8, 8, 8, 8, 8, 8, 8, 8, 8, 8, 8, 8, 8, 8, 8, 8, 8, 8, 8, 8, 8, 8, 8, 8, 8, 8, 8, 8, 8, 8, 8, 8, 8, 8, 8, 8, 8, 8, 8, 8, 8, 8, 8, 8, 8, 8, 8, 8, 8, 8, 8, 8, 8, 8, 8, 8, 8, 8, 8, 8, 8, 8, 8, 8, 8, 8, 8, 8, 8, 8, 8, 8, 8, 8, 8, 8, 8, 8, 8, 8, 8, 8, 8, 8, 8, 8, 8, 8, 8, 8, 8, 8, 8, 8, 8, 8, 8])).size : Nat) : Int) ∧ R (.returned (.int .i64 (IntKind.wrap .i64 (0 + (IntKind.wrap .i64 ((((ByteArray.mk #[0, 1, 2, 2, 3, 3, 3, 3, 4, 4, 4, 4, 4, 4, 4, 4, 5, 5, 5, 5, 5, 5, 5, 5, 5, 5, 5, 5, 5, 5, 5, 5, 6, 6, 6, 6, 6, 6, 6, 6, 6, 6, 6, 6, 6, 6, 6, 6, 6, 6, 6, 6, 6, 6, 6, 6, 6, 6, 6, 6, 6, 6, 6, 6, 7, 7, 7, 7, 7, 7, 7, 7, 7, 7, 7, 7, 7, 7, 7, 7, 7, 7, 7, 7, 7, 7, 7, 7, 7, 7, 7, 7, 7, 7, 7, 7, 7, 7, 7, 7, 7, 7, 7, 7, 7, 7, 7, 7, 7, 7, 7, 7, 7, 7, 7, 7, 7, 7, 7, 7, 7, 7, 7, 7, 7, 7, 7, 7, 8, 8, 8, 8, 8, 8, 8, 8, 8, 8, 8, 8, 8, 8, 8, 8, 8, 8, 8, 8, 8, 8, 8, 8, 8, 8, 8, 8, 8, 8, 8, 8, 8, 8, 8, 8, 8, 8, 8, 8, 8, 8, 8, 8, 8, 8, 8, 8, 8, 8, 8, 8, 8, 8, 8, 8, 8, 8, 8, 8, 8, 8, 8, 8, 8, 8, 8, 8, 8, 8, 8, 8, 8, 8, 8, 8, 8, 8, 8, 8, 8, 8, 8, 8, 8, 8, 8, 8, 8, 8, 8, 8, 8, 8, 8, 8, 8, 8, 8, 8, 8, 8, 8, 8, 8, 8, 8, 8, 8, 8, 8, 8, 8, 8, 8, 8, 8, 8, 8, 8, 8, 8, 8, 8, 8, 8, 8, 8])).data.toList.getD ((IntKind.wrap .u8 a0) : Int).toNat 0).toNat : Nat)))))) w)))
theorem math_bits_Len64.vc {a0 w} {R : Ending → World → Prop} (h : math_bits_Len64.pre a0 w R) : Calls Tryd.prog n_math_bits_Len64 #[.int .u64 a0] w R :=
  calls_of_eq (an := ⟨[], [], []⟩) (args := [.int .u64 a0]) Tryd.noNG Tryd.mixed Tryd.func67 h (by kernel_rfl)

/- internal/strconv.bool2[int]  -/
def internal_strconv_bool2_int.pre (a0 : Bool) (w : World) (R : Ending → World → Prop) : Prop :=
 Br a0
 (R (.returned (.int .i64 1)) w)
 (R (.returned (.int .i64 0)) w)
theorem internal_strconv_bool2_int.vc {a0 w} {R : Ending → World → Prop} (h : internal_strconv_bool2_int.pre a0 w R) : Calls Tryd.prog n_internal_strconv_bool2_int #[.bool a0] w R :=
  calls_of_eq (an := ⟨[], [], []⟩) (args := [.bool a0]) Tryd.noNG Tryd.mixed Tryd.func68 h (by kernel_rfl)

/- internal/strconv.isPowerOfTwo  -/
def internal_strconv_isPowerOfTwo.pre (a0 : Int) (w : World) (R : Ending → World → Prop) : Prop :=
 R (.returned (.bool (((bAnd .i64 a0 (IntKind.wrap .i64 (a0 - 1))) : Int) == 0))) w
theorem internal_strconv_isPowerOfTwo.vc {a0 w} {R : Ending → World → Prop} (h : internal_strconv_isPowerOfTwo.pre a0 w R) : Calls Tryd.prog n_internal_strconv_isPowerOfTwo #[.int .i64 a0] w R :=
  calls_of_eq (an := ⟨[], [], []⟩) (args := [.int .i64 a0]) Tryd.noNG Tryd.mixed Tryd.func69 h (by kernel_rfl)

/- math/bits.TrailingZeros  -/
def math_bits_TrailingZeros.pre (a0 : Int) (w : World) (R : Ending → World → Prop) : Prop :=
 Calls Tryd.prog n_math_bits_TrailingZeros64 #[.int .u64 a0] w (fun e w0 => ∃ (x1 : Int), e = .returned (.int .i64 x1) ∧ 
 R (.returned (.int .i64 x1)) w0)
theorem math_bits_TrailingZeros.vc {a0 w} {R : Ending → World → Prop} (h : math_bits_TrailingZeros.pre a0 w R) : Calls Tryd.prog n_math_bits_TrailingZeros #[.int .u64 a0] w R :=
  calls_of_eq (an := ⟨[], [], []⟩) (args := [.int .u64 a0]) Tryd.noNG Tryd.mixed Tryd.func70 h (by kernel_rfl)

/- math/bits.TrailingZeros32  -/
def math_bits_TrailingZeros32.pre (a0 : Int) (w : World) (R : Ending → World → Prop) : Prop :=
 Br ((a0 : Int) == 0)
 (R (.returned (.int .i64 32)) w)
 ((0 : Int) ≤ (((IntKind.wrap .u32 ((bAnd .u32 a0 (IntKind.wrap .u32 (0 - a0))) * 125613361)) : Int).fdiv (2 ^ (min (27 : Int).toNat 32))) ∧ ((((IntKind.wrap .u32 ((bAnd .u32 a0 (IntKind.wrap .u32 (0 - a0))) * 125613361)) : Int).fdiv (2 ^ (min (27 : Int).toNat 32))) : Int) < ((32 : Nat) : Int) ∧ ∃ (x0 : Int), ld w (padd (some ⟨1, 0, none⟩) (((((IntKind.wrap .u32 ((bAnd .u32 a0 (IntKind.wrap .u32 (0 - a0))) * 125613361)) : Int).fdiv (2 ^ (min (27 : Int).toNat 32))) : Int).toNat * 1)) = some (.int .u8 x0) ∧
 R (.returned (.int .i64 (IntKind.wrap .i64 x0))) w)
theorem math_bits_TrailingZeros32.vc {a0 w} {R : Ending → World → Prop} (h : math_bits_TrailingZeros32.pre a0 w R) : Calls Tryd.prog n_math_bits_TrailingZeros32 #[.int .u32 a0] w R :=
  calls_of_eq (an := ⟨[], [], []⟩) (args := [.int .u32 a0]) Tryd.noNG Tryd.mixed Tryd.func71 h (by kernel_rfl)

/- math/bits.TrailingZeros64  -/
def math_bits_TrailingZeros64.pre (a0 : Int) (w : World) (R : Ending → World → Prop) : Prop :=
 Br ((a0 : Int) == 0)
 (R (.returned (.int .i64 64)) w)
 ((0 : Int) ≤ (((IntKind.wrap .u64 ((bAnd .u64 a0 (IntKind.wrap .u64 (0 - a0))) * 285870213051353865)) : Int).fdiv (2 ^ (min (58 : Int).toNat 64))) ∧ ((((IntKind.wrap .u64 ((bAnd .u64 a0 (IntKind.wrap .u64 (0 - a0))) * 285870213051353865)) : Int).fdiv (2 ^ (min (58 : Int).toNat 64))) : Int) < ((64 : Nat) : Int) ∧ ∃ (x0 : Int), ld w (padd (some ⟨2, 0, none⟩) (((((IntKind.wrap .u64 ((bAnd .u64 a0 (IntKind.wrap .u64 (0 - a0))) * 285870213051353865)) : Int).fdiv (2 ^ (min (58 : Int).toNat 64))) : Int).toNat * 1)) = some (.int .u8 x0) ∧
 R (.returned (.int .i64 (IntKind.wrap .i64 x0))) w)
theorem math_bits_TrailingZeros64.vc {a0 w} {R : Ending → World → Prop} (h : math_bits_TrailingZeros64.pre a0 w R) : Calls Tryd.prog n_math_bits_TrailingZeros64 #[.int .u64 a0] w R :=
  calls_of_eq (an := ⟨[], [], []⟩) (args := [.int .u64 a0]) Tryd.noNG Tryd.mixed Tryd.func72 h (by kernel_rfl)


end Go.Proofs.YtbphdgiepimmkaaDoor
