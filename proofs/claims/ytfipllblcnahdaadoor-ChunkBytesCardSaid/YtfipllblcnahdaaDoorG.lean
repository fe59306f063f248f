import Derived.Test.YtfipllblcnahdaaDoorChecked
import Derived.KernelRfl
import Derived.Test.YtfipllblcnahdaaDoorLib
set_option linter.all false
namespace Go.Proofs.YtfipllblcnahdaaDoor
open Go Go.Vc Go.RowKit Go.Proofs
set_option maxRecDepth 100000
set_option maxHeartbeats 8000000
set_option linter.unusedVariables false
theorem Tryd.noNG : NoNG Tryd.prog := ngB_ok (by kernel_rfl)
theorem Tryd.mixed : Tryd.prog.follows .mixedOrders = true := by kernel_rfl
abbrev n_chunk_Make : FuncId := 10
abbrev n_ref01_Around : FuncId := 11
abbrev n_ref04_Good : FuncId := 12
abbrev n_chunk_Chunk_Set : FuncId := 13
abbrev n_chunk_Chunk_Same : FuncId := 14
abbrev n_law11_lives : FuncId := 15
abbrev n_law11_place : FuncId := 16
abbrev n_ref11_Make : FuncId := 17
abbrev n_ref11_Near : FuncId := 18
abbrev n_chunk_Chunk_At : FuncId := 19
abbrev n_ref11_At : FuncId := 20
abbrev n_ref05_Same : FuncId := 21
abbrev n_chunk_Chunk_Runs : FuncId := 22
abbrev n_chunk_New : FuncId := 23
abbrev n_ref05_May : FuncId := 24
abbrev n_chunk_place_Place : FuncId := 25
abbrev n_law11_does : FuncId := 26
abbrev n_chunk_Chunk_Clone : FuncId := 27
abbrev n_chunk_Chunk_Top : FuncId := 28
abbrev n_ref11_Top : FuncId := 29
abbrev n_chunk_Chunk_Fill : FuncId := 30
abbrev n_chunk_Chunk_Bytes : FuncId := 31
abbrev n_ref06_Write : FuncId := 32
abbrev n_ref06_Same : FuncId := 33
abbrev n_chunk_Read : FuncId := 34
abbrev n_ref06_Few : FuncId := 35
abbrev n_ref11_Read : FuncId := 36
abbrev n_gen_Chunk : FuncId := 37
abbrev n_chunk_place_index : FuncId := 38
abbrev n_block_May : FuncId := 39
abbrev n_runs_Set : FuncId := 40
abbrev n_slices_Equal_Run : FuncId := 41
abbrev n_ref10_Chunk : FuncId := 42
abbrev n_ref03_Mod : FuncId := 43
abbrev n_runs_At : FuncId := 44
abbrev n_ref11_Index : FuncId := 45
abbrev n_slices_Clone_Run : FuncId := 46
abbrev n_runs_May : FuncId := 47
abbrev n_ref04_May : FuncId := 48
abbrev n_ref11_Fill : FuncId := 49
abbrev n_ref11_Set : FuncId := 50
abbrev n_cell_Mod : FuncId := 51
abbrev n_runs_All : FuncId := 52
abbrev n_ref05_Cells : FuncId := 53
abbrev n_chunk_Chunk_rows : FuncId := 54
abbrev n_cell_Cut : FuncId := 55
abbrev n_runs_Fill : FuncId := 56
abbrev n_code_Write : FuncId := 57
abbrev n_ref06_Number : FuncId := 58
abbrev n_code_Read : FuncId := 59
abbrev n_ref06_Read : FuncId := 60
abbrev n_gen_Cells : FuncId := 61
abbrev n_runs_Of : FuncId := 62
abbrev n_slices_Clip_int : FuncId := 63
abbrev n_cell_Index : FuncId := 64
abbrev n_cell_Chunk : FuncId := 65
abbrev n_block_Name : FuncId := 66
abbrev n_runs_Len : FuncId := 67
abbrev n_ref03_From : FuncId := 68
abbrev n_ref10_Block : FuncId := 69
abbrev n_ref05_Of : FuncId := 70
abbrev n_ref03_Index : FuncId := 71
abbrev n_ref03_Chunk : FuncId := 72
abbrev n_ref05_Set : FuncId := 73
abbrev n_runs_All_1 : FuncId := 74
abbrev n_chunk_Chunk_rows_1 : FuncId := 75
abbrev n_chunk_Chunk_rows_2 : FuncId := 76
abbrev n_cell_cut : FuncId := 77
abbrev n_runs_join : FuncId := 78
abbrev n_runs_Cut : FuncId := 79
abbrev n_runs_Make : FuncId := 80
abbrev n_code_Number : FuncId := 81
abbrev n_code_Digits : FuncId := 82
abbrev n_ref06_Digits : FuncId := 83
abbrev n_gen_Cells_1 : FuncId := 84
abbrev n_cell_From : FuncId := 85
abbrev n_gen_Ground : FuncId := 86
abbrev n_gen_of : FuncId := 87
abbrev n_runs_push : FuncId := 88
abbrev n_cell_Div : FuncId := 89
abbrev n_block_names : FuncId := 90
abbrev n_ref10_Ground : FuncId := 91
abbrev n_ref03_Div : FuncId := 92
abbrev n_gen_Ground_1 : FuncId := 93
abbrev n_gen_Hash : FuncId := 94
abbrev n_strconv_Itoa : FuncId := 95
abbrev n_ref10_Hash : FuncId := 96
abbrev n_ref01_Div : FuncId := 97
abbrev n_internal_strconv_Itoa : FuncId := 98
abbrev n_internal_strconv_FormatInt : FuncId := 99
abbrev n_internal_strconv_small : FuncId := 100
abbrev n_gosem_cut_vars : FuncId := 133
/- breccia/chunk.Make  -/
def chunk_Make.pre (a0 : Int) (a1_0 : Int) (a1_1 : Int) (w : World) (R : Ending → World → Prop) : Prop :=
 ∀ w0 : World, w0 = w.alloc (.cells #[.int .i64 a1_0, .int .i64 a1_1] 27) →
 (Calls Tryd.prog n_gen_Chunk #[.int .i64 a0, .agg #[.int .i64 a1_0, .int .i64 a1_1]] w0.drew (fun e w1 => ∃ (s2 : Sl), e = .returned (.slice s2.a s2.n s2.c) ∧ w1.heap[w.heap.size]? = w0.drew.heap[w.heap.size]? ∧ 
 ∀ w3 : World, w3 = w1.alloc (.cells #[.int .i64 a1_0, .int .i64 a1_1, .slice s2.a s2.n s2.c] 55) →
 R (.returned (.pointer (some ⟨w1.heap.size, 0, none⟩))) w3)) ∧ (Calls Tryd.prog n_gen_Chunk #[.int .i64 a0, .agg #[.int .i64 a1_0, .int .i64 a1_1]] w0.drew (fun e w4 => ∃ (s5 : Sl), e = .returned (.slice s5.a s5.n s5.c) ∧ w4.heap[w.heap.size]? = w0.drew.heap[w.heap.size]? ∧ 
 LoadL w4 (some ⟨w.heap.size, 0, none⟩) 0 [.int .i64 a1_0, .int .i64 a1_1] ∧ ∀ w6 : World, w6 = w4.alloc (.cells #[.int .i64 a1_0, .int .i64 a1_1, .slice s5.a s5.n s5.c] 55) →
 R (.returned (.pointer (some ⟨w4.heap.size, 0, none⟩))) w6))
theorem chunk_Make.vc {a0 a1_0 a1_1 w} {R : Ending → World → Prop} (h : chunk_Make.pre a0 a1_0 a1_1 w R) : Calls Tryd.prog n_chunk_Make #[.int .i64 a0, .agg #[.int .i64 a1_0, .int .i64 a1_1]] w R :=
  calls_of_eq (an := ⟨[], [], []⟩) (args := [.int .i64 a0, .agg #[.int .i64 a1_0, .int .i64 a1_1]]) Tryd.noNG Tryd.mixed Tryd.func10 h (by kernel_rfl)

/- breccia/brecciaref01.Around  -/
def ref01_Around.pre (a0 : Int) (a1 : Int) (w : World) (R : Ending → World → Prop) : Prop :=
 Br (decide ((a0 : Int) < 0))
 (AndL (nzC a1) (R (.returned (.int .i64 (Int.tmod (IntKind.wrap .i64 (0 - (IntKind.wrap .i64 (a0 + 1)))) a1))) w))
 (AndL (nzC a1) (R (.returned (.int .i64 (Int.tmod a0 a1))) w))
theorem ref01_Around.vc {a0 a1 w} {R : Ending → World → Prop} (h : ref01_Around.pre a0 a1 w R) : Calls Tryd.prog n_ref01_Around #[.int .i64 a0, .int .i64 a1] w R :=
  calls_of_eq (an := ⟨[], [], []⟩) (args := [.int .i64 a0, .int .i64 a1]) Tryd.noNG Tryd.mixed Tryd.func11 h (by kernel_rfl)

/- breccia/brecciaref04.Good  -/
def ref04_Good.pre (a0 : Int) (w : World) (R : Ending → World → Prop) : Prop :=
 Calls Tryd.prog n_ref01_Around #[.int .i64 a0, .int .i64 14] w (fun e w0 => ∃ (x1 : Int), e = .returned (.int .i64 x1) ∧ 
 Br (decide ((x1 : Int) > 5))
 (R (.returned (.int .i64 (IntKind.wrap .i64 (x1 + 2)))) w0)
 (R (.returned (.int .i64 x1)) w0))
theorem ref04_Good.vc {a0 w} {R : Ending → World → Prop} (h : ref04_Good.pre a0 w R) : Calls Tryd.prog n_ref04_Good #[.int .i64 a0] w R :=
  calls_of_eq (an := ⟨[], [], []⟩) (args := [.int .i64 a0]) Tryd.noNG Tryd.mixed Tryd.func12 h (by kernel_rfl)

/- (*breccia/chunk.Chunk).Set  -/
def chunk_Chunk_Set.pre (a0 : Addr) (a1_0 : Int) (a1_1 : Int) (a1_2 : Int) (a2 : Int) (w : World) (R : Ending → World → Prop) : Prop :=
 ∀ w0 : World, w0 = w.alloc (.cells #[.int .i64 a1_0, .int .i64 a1_1, .int .i64 a1_2] 23) →
 ∃ (x1 : Int) (x2 : Int), LoadL w0.drew (padd (some a0) 0) 0 [.int .i64 x1, .int .i64 x2] ∧
 Calls Tryd.prog n_chunk_place_index #[.agg #[.int .i64 x1, .int .i64 x2], .agg #[.int .i64 a1_0, .int .i64 a1_1, .int .i64 a1_2]] w0.drew (fun e w3 => ∃ (x4 : Int) (b5 : Bool), e = .returned (.tuple #[.int .i64 x4, .bool b5]) ∧ w3.heap[w.heap.size]? = w0.drew.heap[w.heap.size]? ∧ 
 Br (!b5)
 (R (.returned (.int .i64 5)) w3)
 (Calls Tryd.prog n_block_May #[.int .i64 a2] w3 (fun e w6 => ∃ (b7 : Bool), e = .returned (.bool b7) ∧ w6.heap[w.heap.size]? = w3.heap[w.heap.size]? ∧ 
 Br (!b7)
 (R (.returned (.int .i64 1)) w6)
 (∃ (s8 : Sl), ld w6 (padd (some a0) 2) = some (.slice s8.a s8.n s8.c) ∧
 Calls Tryd.prog n_runs_Set #[.slice s8.a s8.n s8.c, .int .i64 x4, .int .i64 a2] w6 (fun e w9 => ∃ (s10 : Sl), e = .returned (.slice s10.a s10.n s10.c) ∧ w9.heap[w.heap.size]? = w6.heap[w.heap.size]? ∧ 
 (true = true ∧ Wr w9 (padd (some a0) 2) 1) ∧ pblk (padd (some a0) 2) ≠ some w.heap.size ∧ (∀ w11 : World, w11 = setP w9 (padd (some a0) 2) [.slice s10.a s10.n s10.c] →
 R (.returned (.int .i64 0)) w11))))))
theorem chunk_Chunk_Set.vc {a0 a1_0 a1_1 a1_2 a2 w} {R : Ending → World → Prop} (h : chunk_Chunk_Set.pre a0 a1_0 a1_1 a1_2 a2 w R) : Calls Tryd.prog n_chunk_Chunk_Set #[.pointer (some a0), .agg #[.int .i64 a1_0, .int .i64 a1_1, .int .i64 a1_2], .int .i64 a2] w R :=
  calls_of_eq (an := ⟨[], [], []⟩) (args := [.pointer (some a0), .agg #[.int .i64 a1_0, .int .i64 a1_1, .int .i64 a1_2], .int .i64 a2]) Tryd.noNG Tryd.mixed Tryd.func13 h (by kernel_rfl)

/- (*breccia/chunk.Chunk).Same  -/
def chunk_Chunk_Same.pre (a0 : Addr) (a1 : Addr) (w : World) (R : Ending → World → Prop) : Prop :=
 ∃ (x0 : Int) (x1 : Int), LoadL w.drew (padd (padd (some a0) 0) 0) 0 [.int .i64 x0, .int .i64 x1] ∧
 ∃ (x2 : Int) (x3 : Int), LoadL w.drew (padd (padd (some a1) 0) 0) 0 [.int .i64 x2, .int .i64 x3] ∧
 Br (((x0 : Int) == x2) && ((x1 : Int) == x3))
 (∃ (s4 : Sl), ld w.drew (padd (some a0) 2) = some (.slice s4.a s4.n s4.c) ∧
 ∃ (s5 : Sl), ld w.drew (padd (some a1) 2) = some (.slice s5.a s5.n s5.c) ∧
 Calls Tryd.prog n_slices_Equal_Run #[.slice s4.a s4.n s4.c, .slice s5.a s5.n s5.c] w.drew (fun e w6 => ∃ (b7 : Bool), e = .returned (.bool b7) ∧ 
 LoadL w6 (padd (padd (some a1) 0) 0) 0 [.int .i64 x2, .int .i64 x3] ∧ LoadL w6 (padd (padd (some a0) 0) 0) 0 [.int .i64 x0, .int .i64 x1] ∧ R (.returned (.bool b7)) w6))
 (R (.returned (.bool false)) w.drew)
theorem chunk_Chunk_Same.vc {a0 a1 w} {R : Ending → World → Prop} (h : chunk_Chunk_Same.pre a0 a1 w R) : Calls Tryd.prog n_chunk_Chunk_Same #[.pointer (some a0), .pointer (some a1)] w R :=
  calls_of_eq (an := ⟨[], [], []⟩) (args := [.pointer (some a0), .pointer (some a1)]) Tryd.noNG Tryd.mixed Tryd.func14 h (by kernel_rfl)

/- breccia/breccialaw11.lives  -/
def law11_lives.pre  (w : World) (R : Ending → World → Prop) : Prop :=
 Calls Tryd.prog n_chunk_Make #[.int .i64 0, .agg #[.int .i64 0, .int .i64 0]] w (fun e w0 => ∃ (p1 : Option Addr), e = .returned (.pointer p1) ∧ 
 Br (p1).isNone
 (R (.returned (.bool false)) w0)
 (Calls Tryd.prog n_chunk_Chunk_Set #[.pointer p1, .agg #[.int .i64 0, .int .i64 31, .int .i64 0], .int .i64 5] w0 (fun e w2 => ∃ (x3 : Int), e = .returned (.int .i64 x3) ∧ 
 Br ((x3 : Int) == 0)
 (Calls Tryd.prog n_chunk_Chunk_Top #[.pointer p1, .int .i64 0, .int .i64 0] w2 (fun e w4 => ∃ (x5 : Int), e = .returned (.int .i64 x5) ∧ 
 R (.returned (.bool ((x5 : Int) == 31))) w4))
 (R (.returned (.bool false)) w2))))
theorem law11_lives.vc {w} {R : Ending → World → Prop} (h : law11_lives.pre  w R) : Calls Tryd.prog n_law11_lives #[] w R :=
  calls_of_eq (an := ⟨[], [], []⟩) (args := []) Tryd.noNG Tryd.mixed Tryd.func15 h (by kernel_rfl)

/- breccia/breccialaw11.place  -/
def law11_place.pre (a0_0 : Int) (a0_1 : Int) (w : World) (R : Ending → World → Prop) : Prop :=
 ∀ w0 : World, w0 = w.alloc (.cells #[.int .i64 a0_0, .int .i64 a0_1] 27) →
 ∀ w1 : World, w1 = w0.alloc (.cells #[.int .i64 0, .int .i64 0] 27) →
 Calls Tryd.prog n_ref01_Around #[.int .i64 a0_0, .int .i64 19] w1.drew (fun e w2 => ∃ (x3 : Int), e = .returned (.int .i64 x3) ∧ w2.heap[w.heap.size]? = w1.drew.heap[w.heap.size]? ∧ w2.heap[w0.heap.size]? = w1.drew.heap[w0.heap.size]? ∧ 
 LoadL w2 (some ⟨w.heap.size, 1, none⟩) 0 [.int .i64 a0_1] ∧ Calls Tryd.prog n_ref01_Around #[.int .i64 a0_1, .int .i64 19] w2 (fun e w4 => ∃ (x5 : Int), e = .returned (.int .i64 x5) ∧ w4.heap[w.heap.size]? = w2.heap[w.heap.size]? ∧ w4.heap[w0.heap.size]? = w2.heap[w0.heap.size]? ∧ 
 ∀ w6 : World, w6 = w4.setRow w0.heap.size #[.int .i64 (IntKind.wrap .i64 (x3 - 9)), .int .i64 (IntKind.wrap .i64 (x5 - 9))] →
 R (.returned (.agg #[.int .i64 (IntKind.wrap .i64 (x3 - 9)), .int .i64 (IntKind.wrap .i64 (x5 - 9))])) w6))
theorem law11_place.vc {a0_0 a0_1 w} {R : Ending → World → Prop} (h : law11_place.pre a0_0 a0_1 w R) : Calls Tryd.prog n_law11_place #[.agg #[.int .i64 a0_0, .int .i64 a0_1]] w R :=
  calls_of_eq (an := ⟨[], [], []⟩) (args := [.agg #[.int .i64 a0_0, .int .i64 a0_1]]) Tryd.noNG Tryd.mixed Tryd.func16 h (by kernel_rfl)

/- breccia/brecciaref11.Make  -/
def ref11_Make.pre (a0 : Int) (a1_0 : Int) (a1_1 : Int) (w : World) (R : Ending → World → Prop) : Prop :=
 ∀ w0 : World, w0 = w.alloc (.cells #[.int .i64 a1_0, .int .i64 a1_1] 27) →
 ∀ w1 : World, w1 = w0.alloc (.cells #[.int .i64 0, .int .i64 0, .slice none 0 0] 38) →
 Calls Tryd.prog n_ref10_Chunk #[.int .i64 a0, .agg #[.int .i64 a1_0, .int .i64 a1_1]] w1.drew (fun e w2 => ∃ (s3 : Sl), e = .returned (.slice s3.a s3.n s3.c) ∧ w2.heap[w.heap.size]? = w1.drew.heap[w.heap.size]? ∧ w2.heap[w0.heap.size]? = w1.drew.heap[w0.heap.size]? ∧ 
 LoadL w2 (some ⟨w.heap.size, 0, none⟩) 0 [.int .i64 a1_0, .int .i64 a1_1] ∧ ∀ w4 : World, w4 = w2.setRow w0.heap.size #[.int .i64 a1_0, .int .i64 a1_1, .slice s3.a s3.n s3.c] →
 R (.returned (.agg #[.int .i64 a1_0, .int .i64 a1_1, .slice s3.a s3.n s3.c])) w4)
theorem ref11_Make.vc {a0 a1_0 a1_1 w} {R : Ending → World → Prop} (h : ref11_Make.pre a0 a1_0 a1_1 w R) : Calls Tryd.prog n_ref11_Make #[.int .i64 a0, .agg #[.int .i64 a1_0, .int .i64 a1_1]] w R :=
  calls_of_eq (an := ⟨[], [], []⟩) (args := [.int .i64 a0, .agg #[.int .i64 a1_0, .int .i64 a1_1]]) Tryd.noNG Tryd.mixed Tryd.func17 h (by kernel_rfl)

/- breccia/brecciaref11.Near  -/
def ref11_Near.pre (a0_0 : Int) (a0_1 : Int) (a1_0 : Int) (a1_1 : Int) (a1_2 : Int) (w : World) (R : Ending → World → Prop) : Prop :=
 ∀ w0 : World, w0 = w.alloc (.cells #[.int .i64 a0_0, .int .i64 a0_1] 27) →
 ∀ w1 : World, w1 = w0.alloc (.cells #[.int .i64 a1_0, .int .i64 a1_1, .int .i64 a1_2] 23) →
 ∀ w2 : World, w2 = w1.alloc (.cells #[.int .i64 0, .int .i64 0, .int .i64 0] 23) →
 Calls Tryd.prog n_ref03_Mod #[.int .i64 a1_0, .int .i64 20] w2 (fun e w3 => ∃ (x4 : Int), e = .returned (.int .i64 x4) ∧ w3.heap[w.heap.size]? = w2.heap[w.heap.size]? ∧ w3.heap[w0.heap.size]? = w2.heap[w0.heap.size]? ∧ w3.heap[w1.heap.size]? = w2.heap[w1.heap.size]? ∧ 
 Calls Tryd.prog n_ref03_Mod #[.int .i64 a1_2, .int .i64 20] w3 (fun e w5 => ∃ (x6 : Int), e = .returned (.int .i64 x6) ∧ w5.heap[w.heap.size]? = w3.heap[w.heap.size]? ∧ w5.heap[w0.heap.size]? = w3.heap[w0.heap.size]? ∧ w5.heap[w1.heap.size]? = w3.heap[w1.heap.size]? ∧ 
 Calls Tryd.prog n_ref03_Mod #[.int .i64 a1_1, .int .i64 34] w5.drew (fun e w7 => ∃ (x8 : Int), e = .returned (.int .i64 x8) ∧ w7.heap[w.heap.size]? = w5.drew.heap[w.heap.size]? ∧ w7.heap[w0.heap.size]? = w5.drew.heap[w0.heap.size]? ∧ w7.heap[w1.heap.size]? = w5.drew.heap[w1.heap.size]? ∧ 
 LoadL w7 (some ⟨w.heap.size, 1, none⟩) 0 [.int .i64 a0_1] ∧ LoadL w7 (some ⟨w.heap.size, 0, none⟩) 0 [.int .i64 a0_0] ∧ ∀ w9 : World, w9 = w7.setRow w1.heap.size #[.int .i64 (IntKind.wrap .i64 ((IntKind.wrap .i64 (a0_0 * 16)) + (IntKind.wrap .i64 (x4 - 2)))), .int .i64 (IntKind.wrap .i64 (x8 - 1)), .int .i64 (IntKind.wrap .i64 ((IntKind.wrap .i64 (a0_1 * 16)) + (IntKind.wrap .i64 (x6 - 2))))] →
 R (.returned (.agg #[.int .i64 (IntKind.wrap .i64 ((IntKind.wrap .i64 (a0_0 * 16)) + (IntKind.wrap .i64 (x4 - 2)))), .int .i64 (IntKind.wrap .i64 (x8 - 1)), .int .i64 (IntKind.wrap .i64 ((IntKind.wrap .i64 (a0_1 * 16)) + (IntKind.wrap .i64 (x6 - 2))))])) w9)))
theorem ref11_Near.vc {a0_0 a0_1 a1_0 a1_1 a1_2 w} {R : Ending → World → Prop} (h : ref11_Near.pre a0_0 a0_1 a1_0 a1_1 a1_2 w R) : Calls Tryd.prog n_ref11_Near #[.agg #[.int .i64 a0_0, .int .i64 a0_1], .agg #[.int .i64 a1_0, .int .i64 a1_1, .int .i64 a1_2]] w R :=
  calls_of_eq (an := ⟨[], [], []⟩) (args := [.agg #[.int .i64 a0_0, .int .i64 a0_1], .agg #[.int .i64 a1_0, .int .i64 a1_1, .int .i64 a1_2]]) Tryd.noNG Tryd.mixed Tryd.func18 h (by kernel_rfl)

/- (*breccia/chunk.Chunk).At  -/
def chunk_Chunk_At.pre (a0 : Addr) (a1_0 : Int) (a1_1 : Int) (a1_2 : Int) (w : World) (R : Ending → World → Prop) : Prop :=
 ∀ w0 : World, w0 = w.alloc (.cells #[.int .i64 a1_0, .int .i64 a1_1, .int .i64 a1_2] 23) →
 ∃ (x1 : Int) (x2 : Int), LoadL w0.drew (padd (some a0) 0) 0 [.int .i64 x1, .int .i64 x2] ∧
 Calls Tryd.prog n_chunk_place_index #[.agg #[.int .i64 x1, .int .i64 x2], .agg #[.int .i64 a1_0, .int .i64 a1_1, .int .i64 a1_2]] w0.drew (fun e w3 => ∃ (x4 : Int) (b5 : Bool), e = .returned (.tuple #[.int .i64 x4, .bool b5]) ∧ w3.heap[w.heap.size]? = w0.drew.heap[w.heap.size]? ∧ 
 Br (!b5)
 (R (.returned (.tuple #[.int .i64 0, .bool false])) w3)
 (∃ (s6 : Sl), ld w3 (padd (some a0) 2) = some (.slice s6.a s6.n s6.c) ∧
 Calls Tryd.prog n_runs_At #[.slice s6.a s6.n s6.c, .int .i64 x4] w3 (fun e w7 => ∃ (x8 : Int), e = .returned (.int .i64 x8) ∧ w7.heap[w.heap.size]? = w3.heap[w.heap.size]? ∧ 
 R (.returned (.tuple #[.int .i64 x8, .bool true])) w7)))
theorem chunk_Chunk_At.vc {a0 a1_0 a1_1 a1_2 w} {R : Ending → World → Prop} (h : chunk_Chunk_At.pre a0 a1_0 a1_1 a1_2 w R) : Calls Tryd.prog n_chunk_Chunk_At #[.pointer (some a0), .agg #[.int .i64 a1_0, .int .i64 a1_1, .int .i64 a1_2]] w R :=
  calls_of_eq (an := ⟨[], [], []⟩) (args := [.pointer (some a0), .agg #[.int .i64 a1_0, .int .i64 a1_1, .int .i64 a1_2]]) Tryd.noNG Tryd.mixed Tryd.func19 h (by kernel_rfl)

/- breccia/brecciaref11.At  -/
def ref11_At.pre (a0_0 : Int) (a0_1 : Int) (a0_2 : Sl) (a1_0 : Int) (a1_1 : Int) (a1_2 : Int) (w : World) (R : Ending → World → Prop) : Prop :=
 ∀ w0 : World, w0 = w.alloc (.cells #[.int .i64 a0_0, .int .i64 a0_1, .slice a0_2.a a0_2.n a0_2.c] 38) →
 ∀ w1 : World, w1 = w0.alloc (.cells #[.int .i64 a1_0, .int .i64 a1_1, .int .i64 a1_2] 23) →
 Calls Tryd.prog n_ref11_Index #[.agg #[.int .i64 a0_0, .int .i64 a0_1, .slice a0_2.a a0_2.n a0_2.c], .agg #[.int .i64 a1_0, .int .i64 a1_1, .int .i64 a1_2]] w1 (fun e w2 => ∃ (x3 : Int), e = .returned (.int .i64 x3) ∧ w2.heap[w.heap.size]? = w1.heap[w.heap.size]? ∧ w2.heap[w0.heap.size]? = w1.heap[w0.heap.size]? ∧ 
 Br (decide ((x3 : Int) < 0))
 (R (.returned (.int .i64 (-1))) w2)
 (∃ I4 : Nat → Int → Int → World → Prop,
 (∃ n5, ([.int .i64 a0_0, .int .i64 a0_1, .slice a0_2.a a0_2.n a0_2.c] : List Value) = [.int .i64 a0_0, .int .i64 a0_1, .slice a0_2.a a0_2.n a0_2.c] ∧ ([.int .i64 a1_0, .int .i64 a1_1, .int .i64 a1_2] : List Value) = [.int .i64 a1_0, .int .i64 a1_1, .int .i64 a1_2] ∧ I4 n5 (0) (0) w2) ∧
 ∀ (n5 : Nat) (us6 : Nat → Value) (x7 : Int) (x8 : Int) (w9 : World), I4 n5 x7 x8 w9 →
 Br (decide ((x7 : Int) < ((a0_2.n : Nat) : Int)))
 (InB a0_2.a x7 a0_2.n ∧ AndL (nnC (padd a0_2.a ((x7 : Int).toNat * 2))) (∃ (x11 : Int), ld w9 (padd (padd a0_2.a ((x7 : Int).toNat * 2)) 0) = some (.int .i64 x11) ∧
 Br (decide ((x3 : Int) < (IntKind.wrap .i64 (x8 + x11))))
 (InB a0_2.a x7 a0_2.n ∧ AndL (nnC (padd a0_2.a ((x7 : Int).toNat * 2))) (∃ (x12 : Int), ld w9 (padd (padd a0_2.a ((x7 : Int).toNat * 2)) 1) = some (.int .i64 x12) ∧
 R (.returned (.int .i64 x12)) w9))
 (∃ n10, n10 < n5 ∧ ([.int .i64 a0_0, .int .i64 a0_1, .slice a0_2.a a0_2.n a0_2.c] : List Value) = [.int .i64 a0_0, .int .i64 a0_1, .slice a0_2.a a0_2.n a0_2.c] ∧ ([.int .i64 a1_0, .int .i64 a1_1, .int .i64 a1_2] : List Value) = [.int .i64 a1_0, .int .i64 a1_1, .int .i64 a1_2] ∧ I4 n10 ((IntKind.wrap .i64 (x7 + 1))) ((IntKind.wrap .i64 (x8 + x11))) w9)))
 (R (.returned (.int .i64 (-1))) w9)))
theorem ref11_At.vc {a0_0 a0_1 a0_2 a1_0 a1_1 a1_2 w} {R : Ending → World → Prop} (h : ref11_At.pre a0_0 a0_1 a0_2 a1_0 a1_1 a1_2 w R) : Calls Tryd.prog n_ref11_At #[.agg #[.int .i64 a0_0, .int .i64 a0_1, .slice a0_2.a a0_2.n a0_2.c], .agg #[.int .i64 a1_0, .int .i64 a1_1, .int .i64 a1_2]] w R :=
  calls_of_eq (an := ⟨[(6, ⟨[(7, .int .i64), (6, .int .i64)], [], []⟩)], [], []⟩) (args := [.agg #[.int .i64 a0_0, .int .i64 a0_1, .slice a0_2.a a0_2.n a0_2.c], .agg #[.int .i64 a1_0, .int .i64 a1_1, .int .i64 a1_2]]) Tryd.noNG Tryd.mixed Tryd.func20 h (by kernel_rfl)

/- breccia/brecciaref05.Same  -/
def ref05_Same.pre (a0 : Sl) (a1 : Sl) (w : World) (R : Ending → World → Prop) : Prop :=
 Br ((((a0.n : Nat) : Int) : Int) != ((a1.n : Nat) : Int))
 (R (.returned (.bool false)) w)
 (∃ I0 : Nat → Int → World → Prop,
 (∃ n1, I0 n1 (0) w) ∧
 ∀ (n1 : Nat) (us2 : Nat → Value) (x3 : Int) (w4 : World), I0 n1 x3 w4 →
 Br (decide ((x3 : Int) < ((a0.n : Nat) : Int)))
 (InB a0.a x3 a0.n ∧ ∃ (x6 : Int) (x7 : Int), LoadL w4.drew (padd a0.a ((x3 : Int).toNat * 2)) 0 [.int .i64 x6, .int .i64 x7] ∧
 InB a1.a x3 a1.n ∧ ∃ (x8 : Int) (x9 : Int), LoadL w4.drew (padd a1.a ((x3 : Int).toNat * 2)) 0 [.int .i64 x8, .int .i64 x9] ∧
 Br (!(((x6 : Int) == x8) && ((x7 : Int) == x9)))
 (R (.returned (.bool false)) w4.drew)
 (∃ n5, n5 < n1 ∧ I0 n5 ((IntKind.wrap .i64 (x3 + 1))) w4.drew))
 (R (.returned (.bool true)) w4))
theorem ref05_Same.vc {a0 a1 w} {R : Ending → World → Prop} (h : ref05_Same.pre a0 a1 w R) : Calls Tryd.prog n_ref05_Same #[.slice a0.a a0.n a0.c, .slice a1.a a1.n a1.c] w R :=
  calls_of_eq (an := ⟨[(4, ⟨[(5, .int .i64)], [], []⟩)], [], []⟩) (args := [.slice a0.a a0.n a0.c, .slice a1.a a1.n a1.c]) Tryd.noNG Tryd.mixed Tryd.func21 h (by kernel_rfl)

/- (*breccia/chunk.Chunk).Runs  -/
def chunk_Chunk_Runs.pre (a0 : Addr) (w : World) (R : Ending → World → Prop) : Prop :=
 ∃ (s0 : Sl), ld w (padd (some a0) 2) = some (.slice s0.a s0.n s0.c) ∧
 Calls Tryd.prog n_slices_Clone_Run #[.slice s0.a s0.n s0.c] w (fun e w1 => ∃ (s2 : Sl), e = .returned (.slice s2.a s2.n s2.c) ∧ 
 R (.returned (.slice s2.a s2.n s2.c)) w1)
theorem chunk_Chunk_Runs.vc {a0 w} {R : Ending → World → Prop} (h : chunk_Chunk_Runs.pre a0 w R) : Calls Tryd.prog n_chunk_Chunk_Runs #[.pointer (some a0)] w R :=
  calls_of_eq (an := ⟨[], [], []⟩) (args := [.pointer (some a0)]) Tryd.noNG Tryd.mixed Tryd.func22 h (by kernel_rfl)

/- breccia/chunk.New  -/
def chunk_New.pre (a0_0 : Int) (a0_1 : Int) (a1 : Sl) (w : World) (R : Ending → World → Prop) : Prop :=
 ∀ w0 : World, w0 = w.alloc (.cells #[.int .i64 a0_0, .int .i64 a0_1] 27) →
 Calls Tryd.prog n_runs_May #[.slice a1.a a1.n a1.c, .int .i64 8192] w0 (fun e w1 => ∃ (b2 : Bool), e = .returned (.bool b2) ∧ w1.heap[w.heap.size]? = w0.heap[w.heap.size]? ∧ 
 Br (!b2)
 (R (.returned (.tuple #[.pointer none, .int .i64 1])) w1)
 ((Calls Tryd.prog n_slices_Clone_Run #[.slice a1.a a1.n a1.c] w1.drew (fun e w3 => ∃ (s4 : Sl), e = .returned (.slice s4.a s4.n s4.c) ∧ w3.heap[w.heap.size]? = w1.drew.heap[w.heap.size]? ∧ 
 ∀ w5 : World, w5 = w3.alloc (.cells #[.int .i64 a0_0, .int .i64 a0_1, .slice s4.a s4.n s4.c] 55) →
 R (.returned (.tuple #[.pointer (some ⟨w3.heap.size, 0, none⟩), .int .i64 0])) w5)) ∧ (Calls Tryd.prog n_slices_Clone_Run #[.slice a1.a a1.n a1.c] w1.drew (fun e w6 => ∃ (s7 : Sl), e = .returned (.slice s7.a s7.n s7.c) ∧ w6.heap[w.heap.size]? = w1.drew.heap[w.heap.size]? ∧ 
 LoadL w6 (some ⟨w.heap.size, 0, none⟩) 0 [.int .i64 a0_0, .int .i64 a0_1] ∧ ∀ w8 : World, w8 = w6.alloc (.cells #[.int .i64 a0_0, .int .i64 a0_1, .slice s7.a s7.n s7.c] 55) →
 R (.returned (.tuple #[.pointer (some ⟨w6.heap.size, 0, none⟩), .int .i64 0])) w8))))
theorem chunk_New.vc {a0_0 a0_1 a1 w} {R : Ending → World → Prop} (h : chunk_New.pre a0_0 a0_1 a1 w R) : Calls Tryd.prog n_chunk_New #[.agg #[.int .i64 a0_0, .int .i64 a0_1], .slice a1.a a1.n a1.c] w R :=
  calls_of_eq (an := ⟨[], [], []⟩) (args := [.agg #[.int .i64 a0_0, .int .i64 a0_1], .slice a1.a a1.n a1.c]) Tryd.noNG Tryd.mixed Tryd.func23 h (by kernel_rfl)

/- breccia/brecciaref05.May  -/
def ref05_May.pre (a0 : Sl) (a1 : Int) (w : World) (R : Ending → World → Prop) : Prop :=
 ∃ I0 : Nat → Int → Int → World → Prop,
 (∃ n1, I0 n1 (0) (a1) w) ∧
 ∀ (n1 : Nat) (us2 : Nat → Value) (x3 : Int) (x4 : Int) (w5 : World), I0 n1 x3 x4 w5 →
 Br (decide ((x3 : Int) < ((a0.n : Nat) : Int)))
 (InB a0.a x3 a0.n ∧ AndL (nnC (padd a0.a ((x3 : Int).toNat * 2))) (∃ (x7 : Int), ld w5 (padd (padd a0.a ((x3 : Int).toNat * 2)) 1) = some (.int .i64 x7) ∧
 Calls Tryd.prog n_ref04_May #[.int .i64 x7] w5 (fun e w8 => ∃ (b9 : Bool), e = .returned (.bool b9) ∧ 
 Br (!b9)
 (R (.returned (.bool false)) w8)
 (InB a0.a x3 a0.n ∧ AndL (nnC (padd a0.a ((x3 : Int).toNat * 2))) (∃ (x10 : Int), ld w8 (padd (padd a0.a ((x3 : Int).toNat * 2)) 0) = some (.int .i64 x10) ∧
 Br (decide ((x10 : Int) < 1))
 (R (.returned (.bool false)) w8)
 (InB a0.a x3 a0.n ∧ AndL (nnC (padd a0.a ((x3 : Int).toNat * 2))) (∃ (x11 : Int), ld w8 (padd (padd a0.a ((x3 : Int).toNat * 2)) 0) = some (.int .i64 x11) ∧
 Br (decide ((x11 : Int) > x4))
 (R (.returned (.bool false)) w8)
 (Br (decide ((x3 : Int) > 0))
 (InB a0.a x3 a0.n ∧ AndL (nnC (padd a0.a ((x3 : Int).toNat * 2))) (∃ (x12 : Int), ld w8.drew (padd (padd a0.a ((x3 : Int).toNat * 2)) 1) = some (.int .i64 x12) ∧
 InB a0.a (IntKind.wrap .i64 (x3 - 1)) a0.n ∧ AndL (nnC (padd a0.a (((IntKind.wrap .i64 (x3 - 1)) : Int).toNat * 2))) (∃ (x13 : Int), ld w8.drew (padd (padd a0.a (((IntKind.wrap .i64 (x3 - 1)) : Int).toNat * 2)) 1) = some (.int .i64 x13) ∧
 Br ((x12 : Int) == x13)
 (R (.returned (.bool false)) w8.drew)
 (InB a0.a x3 a0.n ∧ AndL (nnC (padd a0.a ((x3 : Int).toNat * 2))) (∃ (x14 : Int), ld w8.drew (padd (padd a0.a ((x3 : Int).toNat * 2)) 0) = some (.int .i64 x14) ∧
 ∃ n6, n6 < n1 ∧ I0 n6 ((IntKind.wrap .i64 (x3 + 1))) ((IntKind.wrap .i64 (x4 - x14))) w8.drew)))))
 (InB a0.a x3 a0.n ∧ AndL (nnC (padd a0.a ((x3 : Int).toNat * 2))) (∃ (x15 : Int), ld w8.drew (padd (padd a0.a ((x3 : Int).toNat * 2)) 0) = some (.int .i64 x15) ∧
 ∃ n6, n6 < n1 ∧ I0 n6 ((IntKind.wrap .i64 (x3 + 1))) ((IntKind.wrap .i64 (x4 - x15))) w8.drew))))))))))
 (Br ((x4 : Int) == 0)
 (R (.returned (.bool (decide ((a1 : Int) > 0)))) w5)
 (R (.returned (.bool false)) w5))
theorem ref05_May.vc {a0 a1 w} {R : Ending → World → Prop} (h : ref05_May.pre a0 a1 w R) : Calls Tryd.prog n_ref05_May #[.slice a0.a a0.n a0.c, .int .i64 a1] w R :=
  calls_of_eq (an := ⟨[(3, ⟨[(6, .int .i64), (5, .int .i64)], [], []⟩)], [], []⟩) (args := [.slice a0.a a0.n a0.c, .int .i64 a1]) Tryd.noNG Tryd.mixed Tryd.func24 h (by kernel_rfl)

/- (breccia/chunk.place).Place  -/
def chunk_place_Place.pre (a0_0 : Int) (a0_1 : Int) (w : World) (R : Ending → World → Prop) : Prop :=
 ∀ w0 : World, w0 = w.alloc (.cells #[.int .i64 a0_0, .int .i64 a0_1] 53) →
 ∀ w1 : World, w1 = w0.alloc (.cells #[.int .i64 0, .int .i64 0] 27) →
 ∀ w2 : World, w2 = w1.setRow w0.heap.size #[.int .i64 a0_0, .int .i64 a0_1] →
 R (.returned (.agg #[.int .i64 a0_0, .int .i64 a0_1])) w2
theorem chunk_place_Place.vc {a0_0 a0_1 w} {R : Ending → World → Prop} (h : chunk_place_Place.pre a0_0 a0_1 w R) : Calls Tryd.prog n_chunk_place_Place #[.agg #[.int .i64 a0_0, .int .i64 a0_1]] w R :=
  calls_of_eq (an := ⟨[], [], []⟩) (args := [.agg #[.int .i64 a0_0, .int .i64 a0_1]]) Tryd.noNG Tryd.mixed Tryd.func25 h (by kernel_rfl)

/- breccia/breccialaw11.does  -/
def law11_does.pre (a0 : Addr) (a1_0 : Int) (a1_1 : Int) (a1_2 : Sl) (a2_0 : Int) (a2_1 : Int) (a2_2 : Int) (a2_3 : Int) (a2_4 : Int) (a2_5 : Int) (a2_6 : Int) (a2_7 : Int) (w : World) (R : Ending → World → Prop) : Prop :=
 ∀ w0 : World, w0 = w.alloc (.cells #[.int .i64 a1_0, .int .i64 a1_1, .slice a1_2.a a1_2.n a1_2.c] 38) →
 ∀ w1 : World, w1 = w0.alloc (.cells #[.int .i64 a2_0, .int .i64 a2_1, .int .i64 a2_2, .int .i64 a2_3, .int .i64 a2_4, .int .i64 a2_5, .int .i64 a2_6, .int .i64 a2_7] 60) →
 ∀ w2 : World, w2 = w1.alloc (.cells #[.int .i64 0, .int .i64 0, .slice none 0 0] 38) →
 Calls Tryd.prog n_ref11_Near #[.agg #[.int .i64 a1_0, .int .i64 a1_1], .agg #[.int .i64 a2_2, .int .i64 a2_3, .int .i64 a2_4]] w2 (fun e w3 => ∃ (x4 : Int) (x5 : Int) (x6 : Int), e = .returned (.agg #[.int .i64 x4, .int .i64 x5, .int .i64 x6]) ∧ w3.heap[w.heap.size]? = w2.heap[w.heap.size]? ∧ w3.heap[w0.heap.size]? = w2.heap[w0.heap.size]? ∧ w3.heap[w1.heap.size]? = w2.heap[w1.heap.size]? ∧ 
 ∀ w7 : World, w7 = w3.alloc (.cells #[.int .i64 0, .int .i64 0, .int .i64 0] 23) →
 ∀ w8 : World, w8 = w7.setRow w3.heap.size #[.int .i64 x4, .int .i64 x5, .int .i64 x6] →
 Br ((a2_0 : Int) == 0)
 (Calls Tryd.prog n_ref11_Near #[.agg #[.int .i64 a1_0, .int .i64 a1_1], .agg #[.int .i64 a2_5, .int .i64 a2_6, .int .i64 a2_7]] w8 (fun e w9 => ∃ (x10 : Int) (x11 : Int) (x12 : Int), e = .returned (.agg #[.int .i64 x10, .int .i64 x11, .int .i64 x12]) ∧ w9.heap[w.heap.size]? = w8.heap[w.heap.size]? ∧ w9.heap[w0.heap.size]? = w8.heap[w0.heap.size]? ∧ w9.heap[w1.heap.size]? = w8.heap[w1.heap.size]? ∧ w9.heap[w3.heap.size]? = w8.heap[w3.heap.size]? ∧ 
 ∀ w13 : World, w13 = w9.alloc (.cells #[.int .i64 0, .int .i64 0, .int .i64 0] 23) →
 ∀ w14 : World, w14 = w13.setRow w9.heap.size #[.int .i64 x10, .int .i64 x11, .int .i64 x12] →
 Calls Tryd.prog n_ref11_Fill #[.agg #[.int .i64 a1_0, .int .i64 a1_1, .slice a1_2.a a1_2.n a1_2.c], .agg #[.int .i64 x4, .int .i64 x5, .int .i64 x6], .agg #[.int .i64 x10, .int .i64 x11, .int .i64 x12], .int .i64 a2_1] w14 (fun e w15 => ∃ (x16 : Int) (x17 : Int) (s18 : Sl) (x19 : Int) (x20 : Int), e = .returned (.tuple #[.agg #[.int .i64 x16, .int .i64 x17, .slice s18.a s18.n s18.c], .int .i64 x19, .int .i64 x20]) ∧ w15.heap[w.heap.size]? = w14.heap[w.heap.size]? ∧ w15.heap[w0.heap.size]? = w14.heap[w0.heap.size]? ∧ w15.heap[w1.heap.size]? = w14.heap[w1.heap.size]? ∧ w15.heap[w3.heap.size]? = w14.heap[w3.heap.size]? ∧ w15.heap[w9.heap.size]? = w14.heap[w9.heap.size]? ∧ 
 ∀ w21 : World, w21 = w15.alloc (.cells #[.int .i64 0, .int .i64 0, .slice none 0 0] 38) →
 ∀ w22 : World, w22 = w21.setRow w15.heap.size #[.int .i64 x16, .int .i64 x17, .slice s18.a s18.n s18.c] →
 Calls Tryd.prog n_chunk_Chunk_Fill #[.pointer (some a0), .agg #[.int .i64 x4, .int .i64 x5, .int .i64 x6], .agg #[.int .i64 x10, .int .i64 x11, .int .i64 x12], .int .i64 a2_1] w22 (fun e w23 => ∃ (x24 : Int) (x25 : Int), e = .returned (.tuple #[.int .i64 x24, .int .i64 x25]) ∧ w23.heap[w.heap.size]? = w22.heap[w.heap.size]? ∧ w23.heap[w0.heap.size]? = w22.heap[w0.heap.size]? ∧ w23.heap[w1.heap.size]? = w22.heap[w1.heap.size]? ∧ w23.heap[w3.heap.size]? = w22.heap[w3.heap.size]? ∧ w23.heap[w9.heap.size]? = w22.heap[w9.heap.size]? ∧ w23.heap[w15.heap.size]? = w22.heap[w15.heap.size]? ∧ 
 Br ((x24 : Int) == x19)
 (∀ w26 : World, w26 = w23.setRow w1.heap.size #[.int .i64 x16, .int .i64 x17, .slice s18.a s18.n s18.c] →
 R (.returned (.tuple #[.agg #[.int .i64 x16, .int .i64 x17, .slice s18.a s18.n s18.c], .bool ((x20 : Int) == x25)])) w26)
 (∀ w27 : World, w27 = w23.setRow w1.heap.size #[.int .i64 x16, .int .i64 x17, .slice s18.a s18.n s18.c] →
 R (.returned (.tuple #[.agg #[.int .i64 x16, .int .i64 x17, .slice s18.a s18.n s18.c], .bool false])) w27)))))
 (Calls Tryd.prog n_ref11_Set #[.agg #[.int .i64 a1_0, .int .i64 a1_1, .slice a1_2.a a1_2.n a1_2.c], .agg #[.int .i64 x4, .int .i64 x5, .int .i64 x6], .int .i64 a2_1] w8 (fun e w28 => ∃ (x29 : Int) (x30 : Int) (s31 : Sl) (x32 : Int), e = .returned (.tuple #[.agg #[.int .i64 x29, .int .i64 x30, .slice s31.a s31.n s31.c], .int .i64 x32]) ∧ w28.heap[w.heap.size]? = w8.heap[w.heap.size]? ∧ w28.heap[w0.heap.size]? = w8.heap[w0.heap.size]? ∧ w28.heap[w1.heap.size]? = w8.heap[w1.heap.size]? ∧ w28.heap[w3.heap.size]? = w8.heap[w3.heap.size]? ∧ 
 ∀ w33 : World, w33 = w28.alloc (.cells #[.int .i64 0, .int .i64 0, .slice none 0 0] 38) →
 ∀ w34 : World, w34 = w33.setRow w28.heap.size #[.int .i64 x29, .int .i64 x30, .slice s31.a s31.n s31.c] →
 Calls Tryd.prog n_chunk_Chunk_Set #[.pointer (some a0), .agg #[.int .i64 x4, .int .i64 x5, .int .i64 x6], .int .i64 a2_1] w34.drew (fun e w35 => ∃ (x36 : Int), e = .returned (.int .i64 x36) ∧ w35.heap[w.heap.size]? = w34.drew.heap[w.heap.size]? ∧ w35.heap[w0.heap.size]? = w34.drew.heap[w0.heap.size]? ∧ w35.heap[w1.heap.size]? = w34.drew.heap[w1.heap.size]? ∧ w35.heap[w3.heap.size]? = w34.drew.heap[w3.heap.size]? ∧ w35.heap[w28.heap.size]? = w34.drew.heap[w28.heap.size]? ∧ 
 LoadL w35 (some ⟨w28.heap.size, 0, none⟩) 0 [.int .i64 x29, .int .i64 x30, .slice s31.a s31.n s31.c] ∧ ∀ w37 : World, w37 = w35.setRow w1.heap.size #[.int .i64 x29, .int .i64 x30, .slice s31.a s31.n s31.c] →
 R (.returned (.tuple #[.agg #[.int .i64 x29, .int .i64 x30, .slice s31.a s31.n s31.c], .bool ((x36 : Int) == x32)])) w37))))
theorem law11_does.vc {a0 a1_0 a1_1 a1_2 a2_0 a2_1 a2_2 a2_3 a2_4 a2_5 a2_6 a2_7 w} {R : Ending → World → Prop} (h : law11_does.pre a0 a1_0 a1_1 a1_2 a2_0 a2_1 a2_2 a2_3 a2_4 a2_5 a2_6 a2_7 w R) : Calls Tryd.prog n_law11_does #[.pointer (some a0), .agg #[.int .i64 a1_0, .int .i64 a1_1, .slice a1_2.a a1_2.n a1_2.c], .agg #[.int .i64 a2_0, .int .i64 a2_1, .int .i64 a2_2, .int .i64 a2_3, .int .i64 a2_4, .int .i64 a2_5, .int .i64 a2_6, .int .i64 a2_7]] w R :=
  calls_of_eq (an := ⟨[], [], []⟩) (args := [.pointer (some a0), .agg #[.int .i64 a1_0, .int .i64 a1_1, .slice a1_2.a a1_2.n a1_2.c], .agg #[.int .i64 a2_0, .int .i64 a2_1, .int .i64 a2_2, .int .i64 a2_3, .int .i64 a2_4, .int .i64 a2_5, .int .i64 a2_6, .int .i64 a2_7]]) Tryd.noNG Tryd.mixed Tryd.func26 h (by kernel_rfl)

/- (*breccia/chunk.Chunk).Clone  -/
def chunk_Chunk_Clone.pre (a0 : Addr) (w : World) (R : Ending → World → Prop) : Prop :=
 ∃ (x0 : Int) (x1 : Int), LoadL w.drew (padd (some a0) 0) 0 [.int .i64 x0, .int .i64 x1] ∧
 ∃ (s2 : Sl), ld w.drew (padd (some a0) 2) = some (.slice s2.a s2.n s2.c) ∧
 Calls Tryd.prog n_slices_Clone_Run #[.slice s2.a s2.n s2.c] w.drew (fun e w3 => ∃ (s4 : Sl), e = .returned (.slice s4.a s4.n s4.c) ∧ 
 LoadL w3 (padd (some a0) 0) 0 [.int .i64 x0, .int .i64 x1] ∧ ∀ w5 : World, w5 = w3.alloc (.cells #[.int .i64 x0, .int .i64 x1, .slice s4.a s4.n s4.c] 55) →
 R (.returned (.pointer (some ⟨w3.heap.size, 0, none⟩))) w5)
theorem chunk_Chunk_Clone.vc {a0 w} {R : Ending → World → Prop} (h : chunk_Chunk_Clone.pre a0 w R) : Calls Tryd.prog n_chunk_Chunk_Clone #[.pointer (some a0)] w R :=
  calls_of_eq (an := ⟨[], [], []⟩) (args := [.pointer (some a0)]) Tryd.noNG Tryd.mixed Tryd.func27 h (by kernel_rfl)

/- (*breccia/chunk.Chunk).Top  -/
def chunk_Chunk_Top.pre (a0 : Addr) (a1 : Int) (a2 : Int) (w : World) (R : Ending → World → Prop) : Prop :=
 Calls Tryd.prog n_cell_Mod #[.int .i64 a2, .int .i64 16] w (fun e w0 => ∃ (x1 : Int), e = .returned (.int .i64 x1) ∧ 
 Calls Tryd.prog n_cell_Mod #[.int .i64 a1, .int .i64 16] w0 (fun e w2 => ∃ (x3 : Int), e = .returned (.int .i64 x3) ∧ 
 ∀ w4 : World, w4 = w2.alloc (.cells #[.int .i64 0] 3) →
 ∀ w5 : World, w5 = w4.setRow w2.heap.size #[.int .i64 (IntKind.wrap .i64 ((IntKind.wrap .i64 (x1 * 16)) + x3))] →
 ∀ w6 : World, w6 = w5.alloc (.cells #[.int .i64 0] 3) →
 ∀ w7 : World, w7 = w6.setRow w5.heap.size #[.int .i64 (-1)] →
 ∃ (s8 : Sl), ld w7 (padd (some a0) 2) = some (.slice s8.a s8.n s8.c) ∧
 Calls Tryd.prog n_runs_All #[.slice s8.a s8.n s8.c] w7 (fun e w9 => ∃ (v10 : Value), e = .returned (v10) ∧ w9.heap[w2.heap.size]? = w7.heap[w2.heap.size]? ∧ w9.heap[w5.heap.size]? = w7.heap[w5.heap.size]? ∧ 
 ∃ (xs11 : List (List Value)) (Rd12 F13 : Nat → Prop) (I14 : Nat → (Nat → Prop) → Int → World → Prop) (X15 : Option Nat → (Nat → Prop) → Int → World → Prop),
 (∀ x ∈ xs11, ∃ (x16 : Int) (x17 : Int), x = [.int .i64 x16, .int .i64 x17]) ∧
 (∀ (n18 : Nat) (F19 : Nat → Prop) (x20 : Int) (w21 w22 : World), I14 n18 F19 x20 w21 → Below w9.heap.size w21 w22 → (∀ i, F19 i → w22.heap[i]? = w21.heap[i]?) → I14 n18 F19 x20 w22) ∧
 (∀ (n23 : Option Nat) (F24 : Nat → Prop) (x25 : Int) (w26 w27 : World), X15 n23 F24 x25 w26 → Below w9.heap.size w26 w27 → (∀ i, F24 i → w27.heap[i]? = w26.heap[i]?) → X15 n23 F24 x25 w27) ∧
 (∀ (n28 : Nat) (F29 : Nat → Prop) (x30 : Int) (w31 : World), I14 n28 F29 x30 w31 → ∀ i, F29 i → i < w31.heap.size ∧ i ≠ w9.heap.size ∧ i ≠ w9.heap.size + 1) ∧
 (∀ (n32 : Option Nat) (F33 : Nat → Prop) (x34 : Int) (w35 : World), X15 n32 F33 x34 w35 → ∀ i, F33 i → i < w35.heap.size ∧ i ≠ w9.heap.size ∧ i ≠ w9.heap.size + 1) ∧
 (∀ i, Rd12 i → i < w9.heap.size ∧ ¬ F13 i ∧ i ≠ w2.heap.size ∧ i ≠ w5.heap.size ∧ True) ∧
 (∀ w36 : World, Begun w9.heap.size w9 w36 → Iter Tryd.prog (v10) w36 Rd12 xs11 ∧ ([.int .i64 (IntKind.wrap .i64 ((IntKind.wrap .i64 (x1 * 16)) + x3))] : List Value) = [.int .i64 (IntKind.wrap .i64 ((IntKind.wrap .i64 (x1 * 16)) + x3))] ∧ I14 0 F13 ((-1)) w36) ∧
 (∀ (n37 : Nat) (F38 : Nat → Prop) (us39 : Nat → Value) (x40 : Int) (x41 : Int) (x42 : Int) (w43 : World), xs11[n37]? = some [.int .i64 x41, .int .i64 x42] → I14 n37 F38 x40 w43 →
 Below w43.heap.size w43 w43 ∧ ∀ w44 : World, Rec (w9.heap.size + 1) w43 w44 → I14 n37 F38 x40 w44 →
 Br ((x42 : Int) != 0)
 (Br (((Int.tmod x41 256) : Int) == (IntKind.wrap .i64 ((IntKind.wrap .i64 (x1 * 16)) + x3)))
 (∀ w45 : World, w45 = w44.setRow w5.heap.size #[.int .i64 (IntKind.wrap .i64 (Int.tdiv x41 256))] →
 ∃ F46 : Nat → Prop, (([.int .i64 (IntKind.wrap .i64 ((IntKind.wrap .i64 (x1 * 16)) + x3))] : List Value) = [.int .i64 (IntKind.wrap .i64 ((IntKind.wrap .i64 (x1 * 16)) + x3))] ∧ I14 (n37 + 1) F46 ((IntKind.wrap .i64 (Int.tdiv x41 256))) w45) ∧ Step (fun i => F38 i ∨ i ∈ ([w2.heap.size, w5.heap.size] : List Nat)) (fun i => F46 i ∨ i ∈ ([w2.heap.size, w5.heap.size] : List Nat)) w44 w45)
 (∃ F47 : Nat → Prop, (([.int .i64 (IntKind.wrap .i64 ((IntKind.wrap .i64 (x1 * 16)) + x3))] : List Value) = [.int .i64 (IntKind.wrap .i64 ((IntKind.wrap .i64 (x1 * 16)) + x3))] ∧ I14 (n37 + 1) F47 (x40) w44) ∧ Step (fun i => F38 i ∨ i ∈ ([w2.heap.size, w5.heap.size] : List Nat)) (fun i => F47 i ∨ i ∈ ([w2.heap.size, w5.heap.size] : List Nat)) w44 w44))
 (∃ F48 : Nat → Prop, (([.int .i64 (IntKind.wrap .i64 ((IntKind.wrap .i64 (x1 * 16)) + x3))] : List Value) = [.int .i64 (IntKind.wrap .i64 ((IntKind.wrap .i64 (x1 * 16)) + x3))] ∧ I14 (n37 + 1) F48 (x40) w44) ∧ Step (fun i => F38 i ∨ i ∈ ([w2.heap.size, w5.heap.size] : List Nat)) (fun i => F48 i ∨ i ∈ ([w2.heap.size, w5.heap.size] : List Nat)) w44 w44)) ∧
 (∀ (F49 : Nat → Prop) (us50 : Nat → Value) (x51 : Int) (w52 : World), I14 xs11.length F49 x51 w52 → w52.heap[w9.heap.size]? = some (.deferred (some [])) →
 w52.heap[w9.heap.size]? = some (.deferred (some [])) ∧ ∀ w53 : World, Rec w9.heap.size w52 w53 →
 R (.returned (.int .i64 x51)) w53) ∧
 True)))
theorem chunk_Chunk_Top.vc {a0 a1 a2 w} {R : Ending → World → Prop} (h : chunk_Chunk_Top.pre a0 a1 a2 w R) : Calls Tryd.prog n_chunk_Chunk_Top #[.pointer (some a0), .int .i64 a1, .int .i64 a2] w R :=
  calls_of_eq (an := ⟨[], [], [(6, ⟨[], [(1, [.int .i64])], []⟩, [.sc (.int .i64), .sc (.int .i64)])]⟩) (args := [.pointer (some a0), .int .i64 a1, .int .i64 a2]) Tryd.noNG Tryd.mixed Tryd.func28 h (by kernel_rfl)

/- breccia/brecciaref11.Top  -/
def ref11_Top.pre (a0_0 : Int) (a0_1 : Int) (a0_2 : Sl) (a1 : Int) (a2 : Int) (w : World) (R : Ending → World → Prop) : Prop :=
 ∀ w0 : World, w0 = w.alloc (.cells #[.int .i64 a0_0, .int .i64 a0_1, .slice a0_2.a a0_2.n a0_2.c] 38) →
 Calls Tryd.prog n_ref05_Cells #[.slice a0_2.a a0_2.n a0_2.c] w0 (fun e w1 => ∃ (s2 : Sl), e = .returned (.slice s2.a s2.n s2.c) ∧ w1.heap[w.heap.size]? = w0.heap[w.heap.size]? ∧ 
 ∃ I3 : Nat → Int → World → Prop,
 (∃ n4, ([.int .i64 a0_0, .int .i64 a0_1, .slice a0_2.a a0_2.n a0_2.c] : List Value) = [.int .i64 a0_0, .int .i64 a0_1, .slice a0_2.a a0_2.n a0_2.c] ∧ I3 n4 (31) w1) ∧
 ∀ (n4 : Nat) (us5 : Nat → Value) (x6 : Int) (w7 : World), I3 n4 x6 w7 →
 Br (decide ((x6 : Int) ≥ 0))
 (Calls Tryd.prog n_ref03_Mod #[.int .i64 a2, .int .i64 16] w7 (fun e w9 => ∃ (x10 : Int), e = .returned (.int .i64 x10) ∧ w9.heap[w.heap.size]? = w7.heap[w.heap.size]? ∧ 
 Calls Tryd.prog n_ref03_Mod #[.int .i64 a1, .int .i64 16] w9 (fun e w11 => ∃ (x12 : Int), e = .returned (.int .i64 x12) ∧ w11.heap[w.heap.size]? = w9.heap[w.heap.size]? ∧ 
 InB s2.a (IntKind.wrap .i64 ((IntKind.wrap .i64 ((IntKind.wrap .i64 (x6 * 256)) + (IntKind.wrap .i64 (x10 * 16)))) + x12)) s2.n ∧ ∃ (x13 : Int), ld w11 (padd s2.a (((IntKind.wrap .i64 ((IntKind.wrap .i64 ((IntKind.wrap .i64 (x6 * 256)) + (IntKind.wrap .i64 (x10 * 16)))) + x12)) : Int).toNat * 1)) = some (.int .i64 x13) ∧
 Br ((x13 : Int) != 0)
 (R (.returned (.int .i64 x6)) w11)
 (∃ n8, n8 < n4 ∧ ([.int .i64 a0_0, .int .i64 a0_1, .slice a0_2.a a0_2.n a0_2.c] : List Value) = [.int .i64 a0_0, .int .i64 a0_1, .slice a0_2.a a0_2.n a0_2.c] ∧ I3 n8 ((IntKind.wrap .i64 (x6 - 1))) w11))))
 (R (.returned (.int .i64 (-1))) w7))
theorem ref11_Top.vc {a0_0 a0_1 a0_2 a1 a2 w} {R : Ending → World → Prop} (h : ref11_Top.pre a0_0 a0_1 a0_2 a1 a2 w R) : Calls Tryd.prog n_ref11_Top #[.agg #[.int .i64 a0_0, .int .i64 a0_1, .slice a0_2.a a0_2.n a0_2.c], .int .i64 a1, .int .i64 a2] w R :=
  calls_of_eq (an := ⟨[(3, ⟨[(8, .int .i64)], [], []⟩)], [], []⟩) (args := [.agg #[.int .i64 a0_0, .int .i64 a0_1, .slice a0_2.a a0_2.n a0_2.c], .int .i64 a1, .int .i64 a2]) Tryd.noNG Tryd.mixed Tryd.func29 h (by kernel_rfl)

/- (*breccia/chunk.Chunk).Fill  -/
def chunk_Chunk_Fill.pre (a0 : Addr) (a1_0 : Int) (a1_1 : Int) (a1_2 : Int) (a2_0 : Int) (a2_1 : Int) (a2_2 : Int) (a3 : Int) (w : World) (R : Ending → World → Prop) : Prop :=
 ∀ w0 : World, w0 = w.alloc (.cells #[.pointer (some a0)] 24) →
 ∀ w1 : World, w1 = w0.alloc (.cells #[.int .i64 a1_0, .int .i64 a1_1, .int .i64 a1_2] 23) →
 ∀ w2 : World, w2 = w1.alloc (.cells #[.int .i64 a2_0, .int .i64 a2_1, .int .i64 a2_2] 23) →
 ∀ w3 : World, w3 = w2.alloc (.cells #[.int .i64 a3] 3) →
 Calls Tryd.prog n_block_May #[.int .i64 a3] w3 (fun e w4 => ∃ (b5 : Bool), e = .returned (.bool b5) ∧ w4.heap[w.heap.size]? = w3.heap[w.heap.size]? ∧ w4.heap[w0.heap.size]? = w3.heap[w0.heap.size]? ∧ w4.heap[w1.heap.size]? = w3.heap[w1.heap.size]? ∧ w4.heap[w2.heap.size]? = w3.heap[w2.heap.size]? ∧ 
 Br (!b5)
 (R (.returned (.tuple #[.int .i64 0, .int .i64 1])) w4)
 (∀ w6 : World, w6 = w4.alloc (.cells #[.int .i64 0] 3) →
 ∀ w7 : World, w7 = w6.setRow w4.heap.size #[.int .i64 0] →
 Calls Tryd.prog n_cell_Cut #[.agg #[.int .i64 a1_0, .int .i64 a1_1, .int .i64 a1_2]] w7.drew (fun e w8 => ∃ (x9 : Int) (x10 : Int) (x11 : Int), e = .returned (.agg #[.int .i64 x9, .int .i64 x10, .int .i64 x11]) ∧ w8.heap[w.heap.size]? = w7.drew.heap[w.heap.size]? ∧ w8.heap[w0.heap.size]? = w7.drew.heap[w0.heap.size]? ∧ w8.heap[w1.heap.size]? = w7.drew.heap[w1.heap.size]? ∧ w8.heap[w2.heap.size]? = w7.drew.heap[w2.heap.size]? ∧ w8.heap[w4.heap.size]? = w7.drew.heap[w4.heap.size]? ∧ 
 LoadL w8 (some ⟨w1.heap.size, 0, none⟩) 0 [.int .i64 a2_0, .int .i64 a2_1, .int .i64 a2_2] ∧ LoadL w8 (some ⟨w.heap.size, 0, none⟩) 0 [.pointer (some a0)] ∧ Calls Tryd.prog n_cell_Cut #[.agg #[.int .i64 a2_0, .int .i64 a2_1, .int .i64 a2_2]] w8 (fun e w12 => ∃ (x13 : Int) (x14 : Int) (x15 : Int), e = .returned (.agg #[.int .i64 x13, .int .i64 x14, .int .i64 x15]) ∧ w12.heap[w.heap.size]? = w8.heap[w.heap.size]? ∧ w12.heap[w0.heap.size]? = w8.heap[w0.heap.size]? ∧ w12.heap[w1.heap.size]? = w8.heap[w1.heap.size]? ∧ w12.heap[w2.heap.size]? = w8.heap[w2.heap.size]? ∧ w12.heap[w4.heap.size]? = w8.heap[w4.heap.size]? ∧ 
 LoadL w12 (some ⟨w.heap.size, 0, none⟩) 0 [.pointer (some a0)] ∧ Calls Tryd.prog n_chunk_Chunk_rows #[.pointer (some a0), .agg #[.int .i64 x9, .int .i64 x10, .int .i64 x11], .agg #[.int .i64 x13, .int .i64 x14, .int .i64 x15]] w12 (fun e w16 => ∃ (v17 : Value), e = .returned (v17) ∧ w16.heap[w.heap.size]? = w12.heap[w.heap.size]? ∧ w16.heap[w0.heap.size]? = w12.heap[w0.heap.size]? ∧ w16.heap[w1.heap.size]? = w12.heap[w1.heap.size]? ∧ w16.heap[w2.heap.size]? = w12.heap[w2.heap.size]? ∧ w16.heap[w4.heap.size]? = w12.heap[w4.heap.size]? ∧ 
 ∃ (xs18 : List (List Value)) (Rd19 F20 : Nat → Prop) (I21 : Nat → (Nat → Prop) → Int → World → Prop) (X22 : Option Nat → (Nat → Prop) → Int → World → Prop),
 (∀ x ∈ xs18, ∃ (x23 : Int) (x24 : Int), x = [.int .i64 x23, .int .i64 x24]) ∧
 (∀ (n25 : Nat) (F26 : Nat → Prop) (x27 : Int) (w28 w29 : World), I21 n25 F26 x27 w28 → Below w16.heap.size w28 w29 → (∀ i, F26 i → w29.heap[i]? = w28.heap[i]?) → I21 n25 F26 x27 w29) ∧
 (∀ (n30 : Option Nat) (F31 : Nat → Prop) (x32 : Int) (w33 w34 : World), X22 n30 F31 x32 w33 → Below w16.heap.size w33 w34 → (∀ i, F31 i → w34.heap[i]? = w33.heap[i]?) → X22 n30 F31 x32 w34) ∧
 (∀ (n35 : Nat) (F36 : Nat → Prop) (x37 : Int) (w38 : World), I21 n35 F36 x37 w38 → ∀ i, F36 i → i < w38.heap.size ∧ i ≠ w16.heap.size ∧ i ≠ w16.heap.size + 1) ∧
 (∀ (n39 : Option Nat) (F40 : Nat → Prop) (x41 : Int) (w42 : World), X22 n39 F40 x41 w42 → ∀ i, F40 i → i < w42.heap.size ∧ i ≠ w16.heap.size ∧ i ≠ w16.heap.size + 1) ∧
 (∀ i, Rd19 i → i < w16.heap.size ∧ ¬ F20 i ∧ i ≠ w.heap.size ∧ i ≠ w0.heap.size ∧ i ≠ w1.heap.size ∧ i ≠ w2.heap.size ∧ i ≠ w4.heap.size ∧ True) ∧
 (∀ w43 : World, Begun w16.heap.size w16 w43 → Iter Tryd.prog (v17) w43 Rd19 xs18 ∧ ([.pointer (some a0)] : List Value) = [.pointer (some a0)] ∧ ([.int .i64 a1_0, .int .i64 a1_1, .int .i64 a1_2] : List Value) = [.int .i64 a1_0, .int .i64 a1_1, .int .i64 a1_2] ∧ ([.int .i64 a2_0, .int .i64 a2_1, .int .i64 a2_2] : List Value) = [.int .i64 a2_0, .int .i64 a2_1, .int .i64 a2_2] ∧ ([.int .i64 a3] : List Value) = [.int .i64 a3] ∧ I21 0 F20 (0) w43) ∧
 (∀ (n44 : Nat) (F45 : Nat → Prop) (us46 : Nat → Value) (x47 : Int) (x48 : Int) (x49 : Int) (w50 : World), xs18[n44]? = some [.int .i64 x48, .int .i64 x49] → I21 n44 F45 x47 w50 →
 Below w50.heap.size w50 w50 ∧ ∀ w51 : World, Rec (w16.heap.size + 1) w50 w51 → I21 n44 F45 x47 w51 →
 ∃ (s52 : Sl), ld w51.drew (padd (some a0) 2) = some (.slice s52.a s52.n s52.c) ∧
 Calls Tryd.prog n_runs_Fill #[.slice s52.a s52.n s52.c, .int .i64 x48, .int .i64 (IntKind.wrap .i64 (x48 + x49)), .int .i64 a3] w51.drew (fun e w53 => ∃ (s54 : Sl), e = .returned (.slice s54.a s54.n s54.c) ∧ w53.heap[w.heap.size]? = w51.drew.heap[w.heap.size]? ∧ w53.heap[w0.heap.size]? = w51.drew.heap[w0.heap.size]? ∧ w53.heap[w1.heap.size]? = w51.drew.heap[w1.heap.size]? ∧ w53.heap[w2.heap.size]? = w51.drew.heap[w2.heap.size]? ∧ w53.heap[w4.heap.size]? = w51.drew.heap[w4.heap.size]? ∧ 
 LoadL w53 (some ⟨w.heap.size, 0, none⟩) 0 [.pointer (some a0)] ∧ LoadL w53 (some ⟨w.heap.size, 0, none⟩) 0 [.pointer (some a0)] ∧ (true = true ∧ Wr w53 (padd (some a0) 2) 1) ∧ pblk (padd (some a0) 2) ≠ some w.heap.size ∧ pblk (padd (some a0) 2) ≠ some w0.heap.size ∧ pblk (padd (some a0) 2) ≠ some w1.heap.size ∧ pblk (padd (some a0) 2) ≠ some w2.heap.size ∧ pblk (padd (some a0) 2) ≠ some w4.heap.size ∧ (∀ w55 : World, w55 = setP w53 (padd (some a0) 2) [.slice s54.a s54.n s54.c] →
 ∀ w56 : World, w56 = w55.setRow w4.heap.size #[.int .i64 (IntKind.wrap .i64 (x47 + x49))] →
 ∃ F57 : Nat → Prop, (([.pointer (some a0)] : List Value) = [.pointer (some a0)] ∧ ([.int .i64 a1_0, .int .i64 a1_1, .int .i64 a1_2] : List Value) = [.int .i64 a1_0, .int .i64 a1_1, .int .i64 a1_2] ∧ ([.int .i64 a2_0, .int .i64 a2_1, .int .i64 a2_2] : List Value) = [.int .i64 a2_0, .int .i64 a2_1, .int .i64 a2_2] ∧ ([.int .i64 a3] : List Value) = [.int .i64 a3] ∧ I21 (n44 + 1) F57 ((IntKind.wrap .i64 (x47 + x49))) w56) ∧ Step (fun i => F45 i ∨ i ∈ ([w.heap.size, w0.heap.size, w1.heap.size, w2.heap.size, w4.heap.size] : List Nat)) (fun i => F57 i ∨ i ∈ ([w.heap.size, w0.heap.size, w1.heap.size, w2.heap.size, w4.heap.size] : List Nat)) w51 w56))) ∧
 (∀ (F58 : Nat → Prop) (us59 : Nat → Value) (x60 : Int) (w61 : World), I21 xs18.length F58 x60 w61 → w61.heap[w16.heap.size]? = some (.deferred (some [])) →
 w61.heap[w16.heap.size]? = some (.deferred (some [])) ∧ ∀ w62 : World, Rec w16.heap.size w61 w62 →
 R (.returned (.tuple #[.int .i64 x60, .int .i64 0])) w62) ∧
 True)))))
theorem chunk_Chunk_Fill.vc {a0 a1_0 a1_1 a1_2 a2_0 a2_1 a2_2 a3 w} {R : Ending → World → Prop} (h : chunk_Chunk_Fill.pre a0 a1_0 a1_1 a1_2 a2_0 a2_1 a2_2 a3 w R) : Calls Tryd.prog n_chunk_Chunk_Fill #[.pointer (some a0), .agg #[.int .i64 a1_0, .int .i64 a1_1, .int .i64 a1_2], .agg #[.int .i64 a2_0, .int .i64 a2_1, .int .i64 a2_2], .int .i64 a3] w R :=
  calls_of_eq (an := ⟨[], [], [(7, ⟨[], [(4, [.int .i64])], []⟩, [.sc (.int .i64), .sc (.int .i64)])]⟩) (args := [.pointer (some a0), .agg #[.int .i64 a1_0, .int .i64 a1_1, .int .i64 a1_2], .agg #[.int .i64 a2_0, .int .i64 a2_1, .int .i64 a2_2], .int .i64 a3]) Tryd.noNG Tryd.mixed Tryd.func30 h (by kernel_rfl)

/- (*breccia/chunk.Chunk).Bytes  -/
def chunk_Chunk_Bytes.pre (a0 : Addr) (w : World) (R : Ending → World → Prop) : Prop :=
 ∃ (s0 : Sl), ld w (padd (some a0) 2) = some (.slice s0.a s0.n s0.c) ∧
 Calls Tryd.prog n_code_Write #[.slice s0.a s0.n s0.c] w (fun e w1 => ∃ (s2 : Sl) (x3 : Int), e = .returned (.tuple #[.slice s2.a s2.n s2.c, .int .i64 x3]) ∧ 
 R (.returned (.slice s2.a s2.n s2.c)) w1)
theorem chunk_Chunk_Bytes.vc {a0 w} {R : Ending → World → Prop} (h : chunk_Chunk_Bytes.pre a0 w R) : Calls Tryd.prog n_chunk_Chunk_Bytes #[.pointer (some a0)] w R :=
  calls_of_eq (an := ⟨[], [], []⟩) (args := [.pointer (some a0)]) Tryd.noNG Tryd.mixed Tryd.func31 h (by kernel_rfl)

/- breccia/brecciaref06.Write  -/
def ref06_Write.pre (a0 : Sl) (w : World) (R : Ending → World → Prop) : Prop :=
 ∃ I0 : Nat → Int → Int → World → Prop,
 (∃ n1, I0 n1 (0) (0) w) ∧
 ∀ (n1 : Nat) (us2 : Nat → Value) (x3 : Int) (x4 : Int) (w5 : World), I0 n1 x3 x4 w5 →
 Br (decide ((x3 : Int) < ((a0.n : Nat) : Int)))
 (InB a0.a x3 a0.n ∧ AndL (nnC (padd a0.a ((x3 : Int).toNat * 2))) (∃ (x7 : Int), ld w5 (padd (padd a0.a ((x3 : Int).toNat * 2)) 0) = some (.int .i64 x7) ∧
 Br (decide ((x7 : Int) < 1))
 (R (.returned (.tuple #[.slice none 0 0, .int .i64 1])) w5)
 (InB a0.a x3 a0.n ∧ AndL (nnC (padd a0.a ((x3 : Int).toNat * 2))) (∃ (x8 : Int), ld w5 (padd (padd a0.a ((x3 : Int).toNat * 2)) 0) = some (.int .i64 x8) ∧
 Br (decide ((x8 : Int) > (IntKind.wrap .i64 (1048576 - x4))))
 (R (.returned (.tuple #[.slice none 0 0, .int .i64 1])) w5)
 (InB a0.a x3 a0.n ∧ AndL (nnC (padd a0.a ((x3 : Int).toNat * 2))) (∃ (x9 : Int), ld w5 (padd (padd a0.a ((x3 : Int).toNat * 2)) 0) = some (.int .i64 x9) ∧
 ∃ n6, n6 < n1 ∧ I0 n6 ((IntKind.wrap .i64 (x3 + 1))) ((IntKind.wrap .i64 (x4 + x9))) w5))))))
 (Calls Tryd.prog n_ref05_May #[.slice a0.a a0.n a0.c, .int .i64 x4] w5 (fun e w10 => ∃ (b11 : Bool), e = .returned (.bool b11) ∧ 
 Br (!b11)
 (R (.returned (.tuple #[.slice none 0 0, .int .i64 1])) w10)
 (∃ I12 : Nat → Int → Sl → World → Prop,
 (∃ n13, I12 n13 (0) ⟨none, 0, 0⟩ w10) ∧
 ∀ (n13 : Nat) (us14 : Nat → Value) (x15 : Int) (s16 : Sl) (w17 : World), I12 n13 x15 s16 w17 →
 Br (decide ((x15 : Int) < ((a0.n : Nat) : Int)))
 (InB a0.a x15 a0.n ∧ AndL (nnC (padd a0.a ((x15 : Int).toNat * 2))) (∃ (x19 : Int), ld w17 (padd (padd a0.a ((x15 : Int).toNat * 2)) 1) = some (.int .i64 x19) ∧
 ∀ w20 : World, w20 = w17.alloc (.cells #[.int .u8 (IntKind.wrap .u8 x19)] 5) →
 AppPre 1 1 w20 ⟨s16.a, s16.n, s16.c⟩ 1 [.int .u8 (IntKind.wrap .u8 x19)] ∧ ∀ (s21 : Sl) (w22 : World), AppRes 5 1 w20 ⟨s16.a, s16.n, s16.c⟩ 1 [.int .u8 (IntKind.wrap .u8 x19)] s21 w22 → w22.heap[w17.heap.size]? = w20.heap[w17.heap.size]? ∧ 
 InB a0.a x15 a0.n ∧ AndL (nnC (padd a0.a ((x15 : Int).toNat * 2))) (∃ (x23 : Int), ld w22 (padd (padd a0.a ((x15 : Int).toNat * 2)) 0) = some (.int .i64 x23) ∧
 Calls Tryd.prog n_ref06_Number #[.int .i64 x23] w22 (fun e w24 => ∃ (s25 : Sl), e = .returned (.slice s25.a s25.n s25.c) ∧ w24.heap[w17.heap.size]? = w22.heap[w17.heap.size]? ∧ 
 ∃ l26 : List Value, Rd w24 s25.a l26 ∧ AppPre 1 1 w24 ⟨s21.a, s21.n, s21.c⟩ s25.n l26 ∧ ∀ (s27 : Sl) (w28 : World), AppRes 5 1 w24 ⟨s21.a, s21.n, s21.c⟩ s25.n l26 s27 w28 → w28.heap[w17.heap.size]? = w24.heap[w17.heap.size]? ∧ 
 ∃ n18, n18 < n13 ∧ I12 n18 ((IntKind.wrap .i64 (x15 + 1))) ⟨s27.a, s27.n, s27.c⟩ w28))))
 (R (.returned (.tuple #[.slice s16.a s16.n s16.c, .int .i64 0])) w17))))
theorem ref06_Write.vc {a0 w} {R : Ending → World → Prop} (h : ref06_Write.pre a0 w R) : Calls Tryd.prog n_ref06_Write #[.slice a0.a a0.n a0.c] w R :=
  calls_of_eq (an := ⟨[(13, ⟨[(8, .int .i64), (7, .slice)], [], []⟩), (3, ⟨[(5, .int .i64), (4, .int .i64)], [], []⟩)], [], []⟩) (args := [.slice a0.a a0.n a0.c]) Tryd.noNG Tryd.mixed Tryd.func32 h (by kernel_rfl)

/- breccia/brecciaref06.Same  -/
def ref06_Same.pre (a0 : Sl) (a1 : Sl) (w : World) (R : Ending → World → Prop) : Prop :=
 ∃ l0 : List Int, l0.length = a0.n ∧ LoadL w a0.a 0 (l0.map (Value.int .u8)) ∧
 ∃ l1 : List Int, l1.length = a1.n ∧ LoadL w a1.a 0 (l1.map (Value.int .u8)) ∧
 R (.returned (.bool (strEq (strOfNums l0) (strOfNums l1)))) w
theorem ref06_Same.vc {a0 a1 w} {R : Ending → World → Prop} (h : ref06_Same.pre a0 a1 w R) : Calls Tryd.prog n_ref06_Same #[.slice a0.a a0.n a0.c, .slice a1.a a1.n a1.c] w R :=
  calls_of_eq (an := ⟨[], [], []⟩) (args := [.slice a0.a a0.n a0.c, .slice a1.a a1.n a1.c]) Tryd.noNG Tryd.mixed Tryd.func33 h (by kernel_rfl)

/- breccia/chunk.Read  -/
def chunk_Read.pre (a0_0 : Int) (a0_1 : Int) (a1 : Sl) (w : World) (R : Ending → World → Prop) : Prop :=
 ∀ w0 : World, w0 = w.alloc (.cells #[.int .i64 a0_0, .int .i64 a0_1] 27) →
 Calls Tryd.prog n_code_Read #[.slice a1.a a1.n a1.c, .int .i64 8192] w0 (fun e w1 => ∃ (s2 : Sl) (x3 : Int), e = .returned (.tuple #[.slice s2.a s2.n s2.c, .int .i64 x3]) ∧ w1.heap[w.heap.size]? = w0.heap[w.heap.size]? ∧ 
 Br ((x3 : Int) != 0)
 (R (.returned (.tuple #[.pointer none, .int .i64 x3])) w1)
 (Calls Tryd.prog n_chunk_New #[.agg #[.int .i64 a0_0, .int .i64 a0_1], .slice s2.a s2.n s2.c] w1 (fun e w4 => ∃ (p5 : Option Addr) (x6 : Int), e = .returned (.tuple #[.pointer p5, .int .i64 x6]) ∧ w4.heap[w.heap.size]? = w1.heap[w.heap.size]? ∧ 
 R (.returned (.tuple #[.pointer p5, .int .i64 x6])) w4)))
theorem chunk_Read.vc {a0_0 a0_1 a1 w} {R : Ending → World → Prop} (h : chunk_Read.pre a0_0 a0_1 a1 w R) : Calls Tryd.prog n_chunk_Read #[.agg #[.int .i64 a0_0, .int .i64 a0_1], .slice a1.a a1.n a1.c] w R :=
  calls_of_eq (an := ⟨[], [], []⟩) (args := [.agg #[.int .i64 a0_0, .int .i64 a0_1], .slice a1.a a1.n a1.c]) Tryd.noNG Tryd.mixed Tryd.func34 h (by kernel_rfl)

/- breccia/brecciaref06.Few  -/
def ref06_Few.pre (a0 : Sl) (a1 : Int) (w : World) (R : Ending → World → Prop) : Prop :=
 Br (decide ((((a0.n : Nat) : Int) : Int) > a1))
 ((0 : Int) ≤ a1 ∧ a1 ≤ ((a0.c : Nat) : Int) ∧ R (.returned (.slice (slBase a0.a (0) (a0.c) 1) ((a1 : Int).toNat - 0) (a0.c - 0))) w)
 (R (.returned (.slice a0.a a0.n a0.c)) w)
theorem ref06_Few.vc {a0 a1 w} {R : Ending → World → Prop} (h : ref06_Few.pre a0 a1 w R) : Calls Tryd.prog n_ref06_Few #[.slice a0.a a0.n a0.c, .int .i64 a1] w R :=
  calls_of_eq (an := ⟨[], [], []⟩) (args := [.slice a0.a a0.n a0.c, .int .i64 a1]) Tryd.noNG Tryd.mixed Tryd.func35 h (by kernel_rfl)

/- breccia/brecciaref11.Read  -/
def ref11_Read.pre (a0_0 : Int) (a0_1 : Int) (a1 : Sl) (w : World) (R : Ending → World → Prop) : Prop :=
 ∀ w0 : World, w0 = w.alloc (.cells #[.int .i64 a0_0, .int .i64 a0_1] 27) →
 ∀ w1 : World, w1 = w0.alloc (.cells #[.int .i64 0, .int .i64 0, .slice none 0 0] 38) →
 Calls Tryd.prog n_ref06_Read #[.slice a1.a a1.n a1.c, .int .i64 8192] w1 (fun e w2 => ∃ (s3 : Sl) (x4 : Int), e = .returned (.tuple #[.slice s3.a s3.n s3.c, .int .i64 x4]) ∧ w2.heap[w.heap.size]? = w1.heap[w.heap.size]? ∧ w2.heap[w0.heap.size]? = w1.heap[w0.heap.size]? ∧ 
 Br ((x4 : Int) != 0)
 (∀ w5 : World, w5 = w2.setRow w0.heap.size #[.int .i64 0, .int .i64 0, .slice none 0 0] →
 R (.returned (.tuple #[.agg #[.int .i64 0, .int .i64 0, .slice none 0 0], .int .i64 x4])) w5)
 (∀ w6 : World, w6 = w2.setRow w0.heap.size #[.int .i64 a0_0, .int .i64 a0_1, .slice s3.a s3.n s3.c] →
 R (.returned (.tuple #[.agg #[.int .i64 a0_0, .int .i64 a0_1, .slice s3.a s3.n s3.c], .int .i64 0])) w6))
theorem ref11_Read.vc {a0_0 a0_1 a1 w} {R : Ending → World → Prop} (h : ref11_Read.pre a0_0 a0_1 a1 w R) : Calls Tryd.prog n_ref11_Read #[.agg #[.int .i64 a0_0, .int .i64 a0_1], .slice a1.a a1.n a1.c] w R :=
  calls_of_eq (an := ⟨[], [], []⟩) (args := [.agg #[.int .i64 a0_0, .int .i64 a0_1], .slice a1.a a1.n a1.c]) Tryd.noNG Tryd.mixed Tryd.func36 h (by kernel_rfl)

/- breccia/gen.Chunk  -/
def gen_Chunk.pre (a0 : Int) (a1_0 : Int) (a1_1 : Int) (w : World) (R : Ending → World → Prop) : Prop :=
 ∀ w0 : World, w0 = w.alloc (.cells #[.int .i64 a1_0, .int .i64 a1_1] 27) →
 ∀ w1 : World, w1 = w0.alloc (.cells #[.slice none 0 0] 92) →
 Calls Tryd.prog n_gen_Cells #[.int .i64 a0, .agg #[.int .i64 a1_0, .int .i64 a1_1]] w1 (fun e w2 => ∃ (v3 : Value), e = .returned (v3) ∧ w2.heap[w.heap.size]? = w1.heap[w.heap.size]? ∧ w2.heap[w0.heap.size]? = w1.heap[w0.heap.size]? ∧ 
 ∃ (xs4 : List (List Value)) (Rd5 F6 : Nat → Prop) (I7 : Nat → (Nat → Prop) → Sl → World → Prop) (X8 : Option Nat → (Nat → Prop) → Sl → World → Prop),
 (∀ x ∈ xs4, ∃ (x9 : Int), x = [.int .i64 x9]) ∧
 (∀ (n10 : Nat) (F11 : Nat → Prop) (s12 : Sl) (w13 w14 : World), I7 n10 F11 s12 w13 → Below w2.heap.size w13 w14 → (∀ i, F11 i → w14.heap[i]? = w13.heap[i]?) → I7 n10 F11 s12 w14) ∧
 (∀ (n15 : Option Nat) (F16 : Nat → Prop) (s17 : Sl) (w18 w19 : World), X8 n15 F16 s17 w18 → Below w2.heap.size w18 w19 → (∀ i, F16 i → w19.heap[i]? = w18.heap[i]?) → X8 n15 F16 s17 w19) ∧
 (∀ (n20 : Nat) (F21 : Nat → Prop) (s22 : Sl) (w23 : World), I7 n20 F21 s22 w23 → ∀ i, F21 i → i < w23.heap.size ∧ i ≠ w2.heap.size ∧ i ≠ w2.heap.size + 1) ∧
 (∀ (n24 : Option Nat) (F25 : Nat → Prop) (s26 : Sl) (w27 : World), X8 n24 F25 s26 w27 → ∀ i, F25 i → i < w27.heap.size ∧ i ≠ w2.heap.size ∧ i ≠ w2.heap.size + 1) ∧
 (∀ i, Rd5 i → i < w2.heap.size ∧ ¬ F6 i ∧ i ≠ w.heap.size ∧ i ≠ w0.heap.size ∧ True) ∧
 (∀ w28 : World, Begun w2.heap.size w2 w28 → Iter Tryd.prog (v3) w28 Rd5 xs4 ∧ ([.int .i64 a1_0, .int .i64 a1_1] : List Value) = [.int .i64 a1_0, .int .i64 a1_1] ∧ I7 0 F6 ⟨none, 0, 0⟩ w28) ∧
 (∀ (n29 : Nat) (F30 : Nat → Prop) (us31 : Nat → Value) (s32 : Sl) (x33 : Int) (w34 : World), xs4[n29]? = some [.int .i64 x33] → I7 n29 F30 s32 w34 →
 Below w34.heap.size w34 w34 ∧ ∀ w35 : World, Rec (w2.heap.size + 1) w34 w35 → I7 n29 F30 s32 w35 →
 ∀ w36 : World, w36 = w35.alloc (.cells #[.int .i64 x33] 3) →
 AppPre 8 1 w36 ⟨s32.a, s32.n, s32.c⟩ 1 [.int .i64 x33] ∧ ∀ (s37 : Sl) (w38 : World), AppRes 3 1 w36 ⟨s32.a, s32.n, s32.c⟩ 1 [.int .i64 x33] s37 w38 → w38.heap[w.heap.size]? = w36.heap[w.heap.size]? ∧ w38.heap[w0.heap.size]? = w36.heap[w0.heap.size]? ∧ w38.heap[w35.heap.size]? = w36.heap[w35.heap.size]? ∧ 
 ∀ w39 : World, w39 = w38.setRow w0.heap.size #[.slice s37.a s37.n s37.c] →
 ∃ F40 : Nat → Prop, (([.int .i64 a1_0, .int .i64 a1_1] : List Value) = [.int .i64 a1_0, .int .i64 a1_1] ∧ I7 (n29 + 1) F40 ⟨s37.a, s37.n, s37.c⟩ w39) ∧ Step (fun i => F30 i ∨ i ∈ ([w.heap.size, w0.heap.size] : List Nat)) (fun i => F40 i ∨ i ∈ ([w.heap.size, w0.heap.size] : List Nat)) w35 w39) ∧
 (∀ (F41 : Nat → Prop) (us42 : Nat → Value) (s43 : Sl) (w44 : World), I7 xs4.length F41 s43 w44 → w44.heap[w2.heap.size]? = some (.deferred (some [])) →
 Calls Tryd.prog n_slices_Clip_int #[.slice s43.a s43.n s43.c] w44 (fun e w45 => ∃ (s46 : Sl), e = .returned (.slice s46.a s46.n s46.c) ∧ w45.heap[w.heap.size]? = w44.heap[w.heap.size]? ∧ w45.heap[w0.heap.size]? = w44.heap[w0.heap.size]? ∧ 
 Calls Tryd.prog n_runs_Of #[.slice s46.a s46.n s46.c] w45 (fun e w47 => ∃ (s48 : Sl), e = .returned (.slice s48.a s48.n s48.c) ∧ w47.heap[w.heap.size]? = w45.heap[w.heap.size]? ∧ w47.heap[w0.heap.size]? = w45.heap[w0.heap.size]? ∧ 
 w47.heap[w2.heap.size]? = some (.deferred (some [])) ∧ ∀ w49 : World, Rec w2.heap.size w47 w49 →
 R (.returned (.slice s48.a s48.n s48.c)) w49))) ∧
 True)
theorem gen_Chunk.vc {a0 a1_0 a1_1 w} {R : Ending → World → Prop} (h : gen_Chunk.pre a0 a1_0 a1_1 w R) : Calls Tryd.prog n_gen_Chunk #[.int .i64 a0, .agg #[.int .i64 a1_0, .int .i64 a1_1]] w R :=
  calls_of_eq (an := ⟨[], [], [(4, ⟨[], [(1, [.slice])], []⟩, [.sc (.int .i64)])]⟩) (args := [.int .i64 a0, .agg #[.int .i64 a1_0, .int .i64 a1_1]]) Tryd.noNG Tryd.mixed Tryd.func37 h (by kernel_rfl)

/- (breccia/chunk.place).index  -/
def chunk_place_index.pre (a0_0 : Int) (a0_1 : Int) (a1_0 : Int) (a1_1 : Int) (a1_2 : Int) (w : World) (R : Ending → World → Prop) : Prop :=
 ∀ w0 : World, w0 = w.alloc (.cells #[.int .i64 a0_0, .int .i64 a0_1] 53) →
 ∀ w1 : World, w1 = w0.alloc (.cells #[.int .i64 a1_0, .int .i64 a1_1, .int .i64 a1_2] 23) →
 Calls Tryd.prog n_cell_Index #[.agg #[.int .i64 a1_0, .int .i64 a1_1, .int .i64 a1_2]] w1 (fun e w2 => ∃ (x3 : Int) (b4 : Bool), e = .returned (.tuple #[.int .i64 x3, .bool b4]) ∧ w2.heap[w.heap.size]? = w1.heap[w.heap.size]? ∧ w2.heap[w0.heap.size]? = w1.heap[w0.heap.size]? ∧ 
 Br b4
 (Calls Tryd.prog n_cell_Chunk #[.agg #[.int .i64 a1_0, .int .i64 a1_1, .int .i64 a1_2]] w2.drew (fun e w5 => ∃ (x6 : Int) (x7 : Int), e = .returned (.agg #[.int .i64 x6, .int .i64 x7]) ∧ w5.heap[w.heap.size]? = w2.drew.heap[w.heap.size]? ∧ w5.heap[w0.heap.size]? = w2.drew.heap[w0.heap.size]? ∧ 
 LoadL w5 (some ⟨w.heap.size, 0, none⟩) 0 [.int .i64 a0_0, .int .i64 a0_1] ∧ R (.returned (.tuple #[.int .i64 x3, .bool (((x6 : Int) == a0_0) && ((x7 : Int) == a0_1))])) w5))
 (R (.returned (.tuple #[.int .i64 x3, .bool false])) w2.drew))
theorem chunk_place_index.vc {a0_0 a0_1 a1_0 a1_1 a1_2 w} {R : Ending → World → Prop} (h : chunk_place_index.pre a0_0 a0_1 a1_0 a1_1 a1_2 w R) : Calls Tryd.prog n_chunk_place_index #[.agg #[.int .i64 a0_0, .int .i64 a0_1], .agg #[.int .i64 a1_0, .int .i64 a1_1, .int .i64 a1_2]] w R :=
  calls_of_eq (an := ⟨[], [], []⟩) (args := [.agg #[.int .i64 a0_0, .int .i64 a0_1], .agg #[.int .i64 a1_0, .int .i64 a1_1, .int .i64 a1_2]]) Tryd.noNG Tryd.mixed Tryd.func38 h (by kernel_rfl)

/- breccia/block.May  -/
def block_May.pre (a0 : Int) (w : World) (R : Ending → World → Prop) : Prop :=
 Calls Tryd.prog n_block_Name #[.int .i64 a0] w (fun e w0 => ∃ (t1 : ByteArray), e = .returned (.string t1) ∧ 
 R (.returned (.bool (!strEq t1 (ByteArray.mk #[])))) w0)
theorem block_May.vc {a0 w} {R : Ending → World → Prop} (h : block_May.pre a0 w R) : Calls Tryd.prog n_block_May #[.int .i64 a0] w R :=
  calls_of_eq (an := ⟨[], [], []⟩) (args := [.int .i64 a0]) Tryd.noNG Tryd.mixed Tryd.func39 h (by kernel_rfl)

/- breccia/runs.Set  -/
def runs_Set.pre (a0 : Sl) (a1 : Int) (a2 : Int) (w : World) (R : Ending → World → Prop) : Prop :=
 Br (decide ((a1 : Int) < 0))
 (Calls Tryd.prog n_slices_Clone_Run #[.slice a0.a a0.n a0.c] w (fun e w0 => ∃ (s1 : Sl), e = .returned (.slice s1.a s1.n s1.c) ∧ 
 R (.returned (.slice s1.a s1.n s1.c)) w0))
 (Calls Tryd.prog n_runs_Len #[.slice a0.a a0.n a0.c] w (fun e w2 => ∃ (x3 : Int), e = .returned (.int .i64 x3) ∧ 
 Br (decide ((a1 : Int) ≥ x3))
 (Calls Tryd.prog n_slices_Clone_Run #[.slice a0.a a0.n a0.c] w2 (fun e w4 => ∃ (s5 : Sl), e = .returned (.slice s5.a s5.n s5.c) ∧ 
 R (.returned (.slice s5.a s5.n s5.c)) w4))
 (Calls Tryd.prog n_runs_Fill #[.slice a0.a a0.n a0.c, .int .i64 a1, .int .i64 (IntKind.wrap .i64 (a1 + 1)), .int .i64 a2] w2 (fun e w6 => ∃ (s7 : Sl), e = .returned (.slice s7.a s7.n s7.c) ∧ 
 R (.returned (.slice s7.a s7.n s7.c)) w6))))
theorem runs_Set.vc {a0 a1 a2 w} {R : Ending → World → Prop} (h : runs_Set.pre a0 a1 a2 w R) : Calls Tryd.prog n_runs_Set #[.slice a0.a a0.n a0.c, .int .i64 a1, .int .i64 a2] w R :=
  calls_of_eq (an := ⟨[], [], []⟩) (args := [.slice a0.a a0.n a0.c, .int .i64 a1, .int .i64 a2]) Tryd.noNG Tryd.mixed Tryd.func40 h (by kernel_rfl)

/- slices.Equal[[]breccia/api.Run,breccia/api.Run]  -/
def slices_Equal_Run.pre (a0 : Sl) (a1 : Sl) (w : World) (R : Ending → World → Prop) : Prop :=
 Br ((((a0.n : Nat) : Int) : Int) != ((a1.n : Nat) : Int))
 (R (.returned (.bool false)) w)
 (∃ I0 : Nat → Int → World → Prop,
 (∃ n1, I0 n1 (0) w) ∧
 ∀ (n1 : Nat) (us2 : Nat → Value) (x3 : Int) (w4 : World), I0 n1 x3 w4 →
 Br (decide ((x3 : Int) < ((a0.n : Nat) : Int)))
 (InB a0.a x3 a0.n ∧ ∃ (x6 : Int) (x7 : Int), LoadL w4.drew (padd a0.a ((x3 : Int).toNat * 2)) 0 [.int .i64 x6, .int .i64 x7] ∧
 InB a1.a x3 a1.n ∧ ∃ (x8 : Int) (x9 : Int), LoadL w4.drew (padd a1.a ((x3 : Int).toNat * 2)) 0 [.int .i64 x8, .int .i64 x9] ∧
 Br (!(((x6 : Int) == x8) && ((x7 : Int) == x9)))
 (R (.returned (.bool false)) w4.drew)
 (∃ n5, n5 < n1 ∧ I0 n5 ((IntKind.wrap .i64 (x3 + 1))) w4.drew))
 (R (.returned (.bool true)) w4))
theorem slices_Equal_Run.vc {a0 a1 w} {R : Ending → World → Prop} (h : slices_Equal_Run.pre a0 a1 w R) : Calls Tryd.prog n_slices_Equal_Run #[.slice a0.a a0.n a0.c, .slice a1.a a1.n a1.c] w R :=
  calls_of_eq (an := ⟨[(4, ⟨[(13, .int .i64)], [], []⟩)], [], []⟩) (args := [.slice a0.a a0.n a0.c, .slice a1.a a1.n a1.c]) Tryd.noNG Tryd.mixed Tryd.func41 h (by kernel_rfl)

/- breccia/brecciaref10.Chunk  -/
def ref10_Chunk.pre (a0 : Int) (a1_0 : Int) (a1_1 : Int) (w : World) (R : Ending → World → Prop) : Prop :=
 ∀ w0 : World, w0 = w.alloc (.cells #[.int .i64 a1_0, .int .i64 a1_1] 27) →
 ∃ I1 : Nat → Int → Sl → World → Prop,
 (∃ n2, ([.int .i64 a1_0, .int .i64 a1_1] : List Value) = [.int .i64 a1_0, .int .i64 a1_1] ∧ I1 n2 (0) ⟨none, 0, 0⟩ w0) ∧
 ∀ (n2 : Nat) (us3 : Nat → Value) (x4 : Int) (s5 : Sl) (w6 : World), I1 n2 x4 s5 w6 →
 Br (decide ((x4 : Int) < 8192))
 (Calls Tryd.prog n_ref03_From #[.agg #[.int .i64 a1_0, .int .i64 a1_1], .int .i64 x4] w6 (fun e w8 => ∃ (x9 : Int) (x10 : Int) (x11 : Int) (b12 : Bool), e = .returned (.tuple #[.agg #[.int .i64 x9, .int .i64 x10, .int .i64 x11], .bool b12]) ∧ w8.heap[w.heap.size]? = w6.heap[w.heap.size]? ∧ 
 ∀ w13 : World, w13 = w8.alloc (.cells #[.int .i64 0, .int .i64 0, .int .i64 0] 23) →
 ∀ w14 : World, w14 = w13.setRow w8.heap.size #[.int .i64 x9, .int .i64 x10, .int .i64 x11] →
 Calls Tryd.prog n_ref10_Block #[.int .i64 a0, .agg #[.int .i64 x9, .int .i64 x10, .int .i64 x11]] w14 (fun e w15 => ∃ (x16 : Int), e = .returned (.int .i64 x16) ∧ w15.heap[w.heap.size]? = w14.heap[w.heap.size]? ∧ w15.heap[w8.heap.size]? = w14.heap[w8.heap.size]? ∧ 
 ∀ w17 : World, w17 = w15.alloc (.cells #[.int .i64 x16] 3) →
 AppPre 8 1 w17 ⟨s5.a, s5.n, s5.c⟩ 1 [.int .i64 x16] ∧ ∀ (s18 : Sl) (w19 : World), AppRes 3 1 w17 ⟨s5.a, s5.n, s5.c⟩ 1 [.int .i64 x16] s18 w19 → w19.heap[w.heap.size]? = w17.heap[w.heap.size]? ∧ w19.heap[w8.heap.size]? = w17.heap[w8.heap.size]? ∧ w19.heap[w15.heap.size]? = w17.heap[w15.heap.size]? ∧ 
 ∃ n7, n7 < n2 ∧ ([.int .i64 a1_0, .int .i64 a1_1] : List Value) = [.int .i64 a1_0, .int .i64 a1_1] ∧ I1 n7 ((IntKind.wrap .i64 (x4 + 1))) ⟨s18.a, s18.n, s18.c⟩ w19)))
 (Calls Tryd.prog n_ref05_Of #[.slice s5.a s5.n s5.c] w6 (fun e w20 => ∃ (s21 : Sl), e = .returned (.slice s21.a s21.n s21.c) ∧ w20.heap[w.heap.size]? = w6.heap[w.heap.size]? ∧ 
 R (.returned (.slice s21.a s21.n s21.c)) w20))
theorem ref10_Chunk.vc {a0 a1_0 a1_1 w} {R : Ending → World → Prop} (h : ref10_Chunk.pre a0 a1_0 a1_1 w R) : Calls Tryd.prog n_ref10_Chunk #[.int .i64 a0, .agg #[.int .i64 a1_0, .int .i64 a1_1]] w R :=
  calls_of_eq (an := ⟨[(3, ⟨[(6, .int .i64), (5, .slice)], [], []⟩)], [], []⟩) (args := [.int .i64 a0, .agg #[.int .i64 a1_0, .int .i64 a1_1]]) Tryd.noNG Tryd.mixed Tryd.func42 h (by kernel_rfl)

/- breccia/brecciaref03.Mod  -/
def ref03_Mod.pre (a0 : Int) (a1 : Int) (w : World) (R : Ending → World → Prop) : Prop :=
 Br (decide ((a1 : Int) < 1))
 (R (.returned (.int .i64 0)) w)
 (AndL (nzC a1) (Br (decide (((Int.tmod a0 a1) : Int) < 0))
 (R (.returned (.int .i64 (IntKind.wrap .i64 ((Int.tmod a0 a1) + a1)))) w)
 (R (.returned (.int .i64 (Int.tmod a0 a1))) w)))
theorem ref03_Mod.vc {a0 a1 w} {R : Ending → World → Prop} (h : ref03_Mod.pre a0 a1 w R) : Calls Tryd.prog n_ref03_Mod #[.int .i64 a0, .int .i64 a1] w R :=
  calls_of_eq (an := ⟨[], [], []⟩) (args := [.int .i64 a0, .int .i64 a1]) Tryd.noNG Tryd.mixed Tryd.func43 h (by kernel_rfl)

/- breccia/runs.At  -/
def runs_At.pre (a0 : Sl) (a1 : Int) (w : World) (R : Ending → World → Prop) : Prop :=
 ∃ I0 : Nat → Int → Int → World → Prop,
 (∃ n1, I0 n1 (0) (a1) w) ∧
 ∀ (n1 : Nat) (us2 : Nat → Value) (x3 : Int) (x4 : Int) (w5 : World), I0 n1 x3 x4 w5 →
 Br (decide ((x3 : Int) < ((a0.n : Nat) : Int)))
 (InB a0.a x3 a0.n ∧ ∃ (x7 : Int) (x8 : Int), LoadL w5 (padd a0.a ((x3 : Int).toNat * 2)) 0 [.int .i64 x7, .int .i64 x8] ∧
 ∀ w9 : World, w9 = w5.alloc (.cells #[.int .i64 0, .int .i64 0] 83) →
 ∀ w10 : World, w10 = w9.setRow w5.heap.size #[.int .i64 x7, .int .i64 x8] →
 Br (decide ((x4 : Int) ≥ 0))
 (Br (decide ((x4 : Int) < x7))
 (R (.returned (.int .i64 x8)) w10)
 (∃ n6, n6 < n1 ∧ I0 n6 ((IntKind.wrap .i64 (x3 + 1))) ((IntKind.wrap .i64 (x4 - x7))) w10))
 (∃ n6, n6 < n1 ∧ I0 n6 ((IntKind.wrap .i64 (x3 + 1))) ((IntKind.wrap .i64 (x4 - x7))) w10))
 (R (.returned (.int .i64 (-1))) w5)
theorem runs_At.vc {a0 a1 w} {R : Ending → World → Prop} (h : runs_At.pre a0 a1 w R) : Calls Tryd.prog n_runs_At #[.slice a0.a a0.n a0.c, .int .i64 a1] w R :=
  calls_of_eq (an := ⟨[(2, ⟨[(9, .int .i64), (1, .int .i64)], [], []⟩)], [], []⟩) (args := [.slice a0.a a0.n a0.c, .int .i64 a1]) Tryd.noNG Tryd.mixed Tryd.func44 h (by kernel_rfl)

/- breccia/brecciaref11.Index  -/
def ref11_Index.pre (a0_0 : Int) (a0_1 : Int) (a0_2 : Sl) (a1_0 : Int) (a1_1 : Int) (a1_2 : Int) (w : World) (R : Ending → World → Prop) : Prop :=
 ∀ w0 : World, w0 = w.alloc (.cells #[.int .i64 a0_0, .int .i64 a0_1, .slice a0_2.a a0_2.n a0_2.c] 38) →
 ∀ w1 : World, w1 = w0.alloc (.cells #[.int .i64 a1_0, .int .i64 a1_1, .int .i64 a1_2] 23) →
 Calls Tryd.prog n_ref03_Index #[.agg #[.int .i64 a1_0, .int .i64 a1_1, .int .i64 a1_2]] w1 (fun e w2 => ∃ (x3 : Int) (b4 : Bool), e = .returned (.tuple #[.int .i64 x3, .bool b4]) ∧ w2.heap[w.heap.size]? = w1.heap[w.heap.size]? ∧ w2.heap[w0.heap.size]? = w1.heap[w0.heap.size]? ∧ 
 Br (!b4)
 (R (.returned (.int .i64 (-1))) w2.drew)
 (Calls Tryd.prog n_ref03_Chunk #[.agg #[.int .i64 a1_0, .int .i64 a1_1, .int .i64 a1_2]] w2.drew (fun e w5 => ∃ (x6 : Int) (x7 : Int), e = .returned (.agg #[.int .i64 x6, .int .i64 x7]) ∧ w5.heap[w.heap.size]? = w2.drew.heap[w.heap.size]? ∧ w5.heap[w0.heap.size]? = w2.drew.heap[w0.heap.size]? ∧ 
 LoadL w5 (some ⟨w.heap.size, 0, none⟩) 0 [.int .i64 a0_0, .int .i64 a0_1] ∧ Br (!(((x6 : Int) == a0_0) && ((x7 : Int) == a0_1)))
 (R (.returned (.int .i64 (-1))) w5)
 (R (.returned (.int .i64 x3)) w5))))
theorem ref11_Index.vc {a0_0 a0_1 a0_2 a1_0 a1_1 a1_2 w} {R : Ending → World → Prop} (h : ref11_Index.pre a0_0 a0_1 a0_2 a1_0 a1_1 a1_2 w R) : Calls Tryd.prog n_ref11_Index #[.agg #[.int .i64 a0_0, .int .i64 a0_1, .slice a0_2.a a0_2.n a0_2.c], .agg #[.int .i64 a1_0, .int .i64 a1_1, .int .i64 a1_2]] w R :=
  calls_of_eq (an := ⟨[], [], []⟩) (args := [.agg #[.int .i64 a0_0, .int .i64 a0_1, .slice a0_2.a a0_2.n a0_2.c], .agg #[.int .i64 a1_0, .int .i64 a1_1, .int .i64 a1_2]]) Tryd.noNG Tryd.mixed Tryd.func45 h (by kernel_rfl)

/- slices.Clone[[]breccia/api.Run,breccia/api.Run]  -/
def slices_Clone_Run.pre (a0 : Sl) (w : World) (R : Ending → World → Prop) : Prop :=
 Br (a0.a).isNone
 (R (.returned (.slice none 0 0)) w)
 (∀ w0 : World, w0 = w.alloc (.cells #[] 83) →
 ∃ l1 : List Value, Rd w0 a0.a l1 ∧ AppPre 16 2 w0 ⟨(some ⟨w.heap.size, 0, none⟩), 0, 0⟩ a0.n l1 ∧ ∀ (s2 : Sl) (w3 : World), AppRes 83 2 w0 ⟨(some ⟨w.heap.size, 0, none⟩), 0, 0⟩ a0.n l1 s2 w3 → w3.heap[w.heap.size]? = w0.heap[w.heap.size]? ∧ 
 R (.returned (.slice s2.a s2.n s2.c)) w3)
theorem slices_Clone_Run.vc {a0 w} {R : Ending → World → Prop} (h : slices_Clone_Run.pre a0 w R) : Calls Tryd.prog n_slices_Clone_Run #[.slice a0.a a0.n a0.c] w R :=
  calls_of_eq (an := ⟨[], [], []⟩) (args := [.slice a0.a a0.n a0.c]) Tryd.noNG Tryd.mixed Tryd.func46 h (by kernel_rfl)

/- breccia/runs.May  -/
def runs_May.pre (a0 : Sl) (a1 : Int) (w : World) (R : Ending → World → Prop) : Prop :=
 ∃ I0 : Nat → Int → Int → World → Prop,
 (∃ n1, I0 n1 (0) (a1) w) ∧
 ∀ (n1 : Nat) (us2 : Nat → Value) (x3 : Int) (x4 : Int) (w5 : World), I0 n1 x3 x4 w5 →
 Br (decide ((x3 : Int) < ((a0.n : Nat) : Int)))
 (InB a0.a x3 a0.n ∧ ∃ (x7 : Int) (x8 : Int), LoadL w5 (padd a0.a ((x3 : Int).toNat * 2)) 0 [.int .i64 x7, .int .i64 x8] ∧
 ∀ w9 : World, w9 = w5.alloc (.cells #[.int .i64 0, .int .i64 0] 83) →
 ∀ w10 : World, w10 = w9.setRow w5.heap.size #[.int .i64 x7, .int .i64 x8] →
 Br (decide ((x7 : Int) < 1))
 (R (.returned (.bool false)) w10.drew)
 (Br (decide ((x7 : Int) > x4))
 (R (.returned (.bool false)) w10.drew)
 (Calls Tryd.prog n_block_May #[.int .i64 x8] w10.drew (fun e w11 => ∃ (b12 : Bool), e = .returned (.bool b12) ∧ w11.heap[w5.heap.size]? = w10.drew.heap[w5.heap.size]? ∧ 
 LoadL w11 (some ⟨w5.heap.size, 0, none⟩) 0 [.int .i64 x7] ∧ LoadL w11 (some ⟨w5.heap.size, 0, none⟩) 0 [.int .i64 x7] ∧ Br (!b12)
 (R (.returned (.bool false)) w11)
 (Br (decide ((x3 : Int) > 0))
 (InB a0.a (IntKind.wrap .i64 (x3 - 1)) a0.n ∧ AndL (nnC (padd a0.a (((IntKind.wrap .i64 (x3 - 1)) : Int).toNat * 2))) (∃ (x13 : Int), ld w11 (padd (padd a0.a (((IntKind.wrap .i64 (x3 - 1)) : Int).toNat * 2)) 1) = some (.int .i64 x13) ∧
 Br ((x13 : Int) == x8)
 (R (.returned (.bool false)) w11)
 (∃ n6, n6 < n1 ∧ I0 n6 ((IntKind.wrap .i64 (x3 + 1))) ((IntKind.wrap .i64 (x4 - x7))) w11)))
 (∃ n6, n6 < n1 ∧ I0 n6 ((IntKind.wrap .i64 (x3 + 1))) ((IntKind.wrap .i64 (x4 - x7))) w11))))))
 (Br (decide ((a1 : Int) > 0))
 (R (.returned (.bool ((x4 : Int) == 0))) w5)
 (R (.returned (.bool false)) w5))
theorem runs_May.vc {a0 a1 w} {R : Ending → World → Prop} (h : runs_May.pre a0 a1 w R) : Calls Tryd.prog n_runs_May #[.slice a0.a a0.n a0.c, .int .i64 a1] w R :=
  calls_of_eq (an := ⟨[(3, ⟨[(11, .int .i64), (5, .int .i64)], [], []⟩)], [], []⟩) (args := [.slice a0.a a0.n a0.c, .int .i64 a1]) Tryd.noNG Tryd.mixed Tryd.func47 h (by kernel_rfl)

/- breccia/brecciaref04.May  -/
def ref04_May.pre (a0 : Int) (w : World) (R : Ending → World → Prop) : Prop :=
 Br (decide ((a0 : Int) ≥ 0))
 (Br (decide ((a0 : Int) ≤ 15))
 (Br ((a0 : Int) != 6)
 (R (.returned (.bool ((a0 : Int) != 7))) w)
 (R (.returned (.bool false)) w))
 (R (.returned (.bool false)) w))
 (R (.returned (.bool false)) w)
theorem ref04_May.vc {a0 w} {R : Ending → World → Prop} (h : ref04_May.pre a0 w R) : Calls Tryd.prog n_ref04_May #[.int .i64 a0] w R :=
  calls_of_eq (an := ⟨[], [], []⟩) (args := [.int .i64 a0]) Tryd.noNG Tryd.mixed Tryd.func48 h (by kernel_rfl)

/- breccia/brecciaref11.Fill  -/
def ref11_Fill.pre (a0_0 : Int) (a0_1 : Int) (a0_2 : Sl) (a1_0 : Int) (a1_1 : Int) (a1_2 : Int) (a2_0 : Int) (a2_1 : Int) (a2_2 : Int) (a3 : Int) (w : World) (R : Ending → World → Prop) : Prop :=
 ∀ w0 : World, w0 = w.alloc (.cells #[.int .i64 a0_0, .int .i64 a0_1, .slice a0_2.a a0_2.n a0_2.c] 38) →
 ∀ w1 : World, w1 = w0.alloc (.cells #[.int .i64 a1_0, .int .i64 a1_1, .int .i64 a1_2] 23) →
 ∀ w2 : World, w2 = w1.alloc (.cells #[.int .i64 a2_0, .int .i64 a2_1, .int .i64 a2_2] 23) →
 ∀ w3 : World, w3 = w2.alloc (.cells #[.int .i64 0, .int .i64 0, .slice none 0 0] 38) →
 Calls Tryd.prog n_ref04_May #[.int .i64 a3] w3 (fun e w4 => ∃ (b5 : Bool), e = .returned (.bool b5) ∧ w4.heap[w.heap.size]? = w3.heap[w.heap.size]? ∧ w4.heap[w0.heap.size]? = w3.heap[w0.heap.size]? ∧ w4.heap[w1.heap.size]? = w3.heap[w1.heap.size]? ∧ w4.heap[w2.heap.size]? = w3.heap[w2.heap.size]? ∧ 
 Br (!b5)
 (∀ w6 : World, w6 = w4.setRow w2.heap.size #[.int .i64 a0_0, .int .i64 a0_1, .slice a0_2.a a0_2.n a0_2.c] →
 R (.returned (.tuple #[.agg #[.int .i64 a0_0, .int .i64 a0_1, .slice a0_2.a a0_2.n a0_2.c], .int .i64 0, .int .i64 1])) w6)
 (Calls Tryd.prog n_ref05_Cells #[.slice a0_2.a a0_2.n a0_2.c] w4 (fun e w7 => ∃ (s8 : Sl), e = .returned (.slice s8.a s8.n s8.c) ∧ w7.heap[w.heap.size]? = w4.heap[w.heap.size]? ∧ w7.heap[w0.heap.size]? = w4.heap[w0.heap.size]? ∧ w7.heap[w1.heap.size]? = w4.heap[w1.heap.size]? ∧ w7.heap[w2.heap.size]? = w4.heap[w2.heap.size]? ∧ 
 ∃ I9 : Nat → Int → Int → World → Prop,
 (∃ n10, ([.int .i64 a0_0, .int .i64 a0_1, .slice a0_2.a a0_2.n a0_2.c] : List Value) = [.int .i64 a0_0, .int .i64 a0_1, .slice a0_2.a a0_2.n a0_2.c] ∧ ([.int .i64 a1_0, .int .i64 a1_1, .int .i64 a1_2] : List Value) = [.int .i64 a1_0, .int .i64 a1_1, .int .i64 a1_2] ∧ ([.int .i64 a2_0, .int .i64 a2_1, .int .i64 a2_2] : List Value) = [.int .i64 a2_0, .int .i64 a2_1, .int .i64 a2_2] ∧ ([.int .i64 0, .int .i64 0, .slice none 0 0] : List Value) = [.int .i64 0, .int .i64 0, .slice none 0 0] ∧ I9 n10 (0) (0) w7) ∧
 ∀ (n10 : Nat) (us11 : Nat → Value) (x12 : Int) (x13 : Int) (w14 : World), I9 n10 x12 x13 w14 →
 Br (decide ((x12 : Int) < ((s8.n : Nat) : Int)))
 (Calls Tryd.prog n_ref03_From #[.agg #[.int .i64 a0_0, .int .i64 a0_1], .int .i64 x12] w14 (fun e w16 => ∃ (x17 : Int) (x18 : Int) (x19 : Int) (b20 : Bool), e = .returned (.tuple #[.agg #[.int .i64 x17, .int .i64 x18, .int .i64 x19], .bool b20]) ∧ w16.heap[w.heap.size]? = w14.heap[w.heap.size]? ∧ w16.heap[w0.heap.size]? = w14.heap[w0.heap.size]? ∧ w16.heap[w1.heap.size]? = w14.heap[w1.heap.size]? ∧ w16.heap[w2.heap.size]? = w14.heap[w2.heap.size]? ∧ 
 ∀ w21 : World, w21 = w16.alloc (.cells #[.int .i64 0, .int .i64 0, .int .i64 0] 23) →
 ∀ w22 : World, w22 = w21.setRow w16.heap.size #[.int .i64 x17, .int .i64 x18, .int .i64 x19] →
 Br (decide ((x17 : Int) ≥ a1_0))
 (Br (decide ((x17 : Int) ≤ a2_0))
 (Br (decide ((x18 : Int) ≥ a1_1))
 (Br (decide ((x18 : Int) ≤ a2_1))
 (Br (decide ((x19 : Int) ≥ a1_2))
 (Br (decide ((x19 : Int) ≤ a2_2))
 (InB s8.a x12 s8.n ∧ (((padd s8.a ((x12 : Int).toNat * 1))).isSome = true ∧ Wr w22 (padd s8.a ((x12 : Int).toNat * 1)) 1) ∧ pblk (padd s8.a ((x12 : Int).toNat * 1)) ≠ some w.heap.size ∧ pblk (padd s8.a ((x12 : Int).toNat * 1)) ≠ some w0.heap.size ∧ pblk (padd s8.a ((x12 : Int).toNat * 1)) ≠ some w1.heap.size ∧ pblk (padd s8.a ((x12 : Int).toNat * 1)) ≠ some w2.heap.size ∧ pblk (padd s8.a ((x12 : Int).toNat * 1)) ≠ some w16.heap.size ∧ (∀ w23 : World, w23 = setP w22 (padd s8.a ((x12 : Int).toNat * 1)) [.int .i64 a3] →
 ∃ n15, n15 < n10 ∧ ([.int .i64 a0_0, .int .i64 a0_1, .slice a0_2.a a0_2.n a0_2.c] : List Value) = [.int .i64 a0_0, .int .i64 a0_1, .slice a0_2.a a0_2.n a0_2.c] ∧ ([.int .i64 a1_0, .int .i64 a1_1, .int .i64 a1_2] : List Value) = [.int .i64 a1_0, .int .i64 a1_1, .int .i64 a1_2] ∧ ([.int .i64 a2_0, .int .i64 a2_1, .int .i64 a2_2] : List Value) = [.int .i64 a2_0, .int .i64 a2_1, .int .i64 a2_2] ∧ ([.int .i64 0, .int .i64 0, .slice none 0 0] : List Value) = [.int .i64 0, .int .i64 0, .slice none 0 0] ∧ I9 n15 ((IntKind.wrap .i64 (x12 + 1))) ((IntKind.wrap .i64 (x13 + 1))) w23))
 (∃ n15, n15 < n10 ∧ ([.int .i64 a0_0, .int .i64 a0_1, .slice a0_2.a a0_2.n a0_2.c] : List Value) = [.int .i64 a0_0, .int .i64 a0_1, .slice a0_2.a a0_2.n a0_2.c] ∧ ([.int .i64 a1_0, .int .i64 a1_1, .int .i64 a1_2] : List Value) = [.int .i64 a1_0, .int .i64 a1_1, .int .i64 a1_2] ∧ ([.int .i64 a2_0, .int .i64 a2_1, .int .i64 a2_2] : List Value) = [.int .i64 a2_0, .int .i64 a2_1, .int .i64 a2_2] ∧ ([.int .i64 0, .int .i64 0, .slice none 0 0] : List Value) = [.int .i64 0, .int .i64 0, .slice none 0 0] ∧ I9 n15 ((IntKind.wrap .i64 (x12 + 1))) (x13) w22))
 (∃ n15, n15 < n10 ∧ ([.int .i64 a0_0, .int .i64 a0_1, .slice a0_2.a a0_2.n a0_2.c] : List Value) = [.int .i64 a0_0, .int .i64 a0_1, .slice a0_2.a a0_2.n a0_2.c] ∧ ([.int .i64 a1_0, .int .i64 a1_1, .int .i64 a1_2] : List Value) = [.int .i64 a1_0, .int .i64 a1_1, .int .i64 a1_2] ∧ ([.int .i64 a2_0, .int .i64 a2_1, .int .i64 a2_2] : List Value) = [.int .i64 a2_0, .int .i64 a2_1, .int .i64 a2_2] ∧ ([.int .i64 0, .int .i64 0, .slice none 0 0] : List Value) = [.int .i64 0, .int .i64 0, .slice none 0 0] ∧ I9 n15 ((IntKind.wrap .i64 (x12 + 1))) (x13) w22))
 (∃ n15, n15 < n10 ∧ ([.int .i64 a0_0, .int .i64 a0_1, .slice a0_2.a a0_2.n a0_2.c] : List Value) = [.int .i64 a0_0, .int .i64 a0_1, .slice a0_2.a a0_2.n a0_2.c] ∧ ([.int .i64 a1_0, .int .i64 a1_1, .int .i64 a1_2] : List Value) = [.int .i64 a1_0, .int .i64 a1_1, .int .i64 a1_2] ∧ ([.int .i64 a2_0, .int .i64 a2_1, .int .i64 a2_2] : List Value) = [.int .i64 a2_0, .int .i64 a2_1, .int .i64 a2_2] ∧ ([.int .i64 0, .int .i64 0, .slice none 0 0] : List Value) = [.int .i64 0, .int .i64 0, .slice none 0 0] ∧ I9 n15 ((IntKind.wrap .i64 (x12 + 1))) (x13) w22))
 (∃ n15, n15 < n10 ∧ ([.int .i64 a0_0, .int .i64 a0_1, .slice a0_2.a a0_2.n a0_2.c] : List Value) = [.int .i64 a0_0, .int .i64 a0_1, .slice a0_2.a a0_2.n a0_2.c] ∧ ([.int .i64 a1_0, .int .i64 a1_1, .int .i64 a1_2] : List Value) = [.int .i64 a1_0, .int .i64 a1_1, .int .i64 a1_2] ∧ ([.int .i64 a2_0, .int .i64 a2_1, .int .i64 a2_2] : List Value) = [.int .i64 a2_0, .int .i64 a2_1, .int .i64 a2_2] ∧ ([.int .i64 0, .int .i64 0, .slice none 0 0] : List Value) = [.int .i64 0, .int .i64 0, .slice none 0 0] ∧ I9 n15 ((IntKind.wrap .i64 (x12 + 1))) (x13) w22))
 (∃ n15, n15 < n10 ∧ ([.int .i64 a0_0, .int .i64 a0_1, .slice a0_2.a a0_2.n a0_2.c] : List Value) = [.int .i64 a0_0, .int .i64 a0_1, .slice a0_2.a a0_2.n a0_2.c] ∧ ([.int .i64 a1_0, .int .i64 a1_1, .int .i64 a1_2] : List Value) = [.int .i64 a1_0, .int .i64 a1_1, .int .i64 a1_2] ∧ ([.int .i64 a2_0, .int .i64 a2_1, .int .i64 a2_2] : List Value) = [.int .i64 a2_0, .int .i64 a2_1, .int .i64 a2_2] ∧ ([.int .i64 0, .int .i64 0, .slice none 0 0] : List Value) = [.int .i64 0, .int .i64 0, .slice none 0 0] ∧ I9 n15 ((IntKind.wrap .i64 (x12 + 1))) (x13) w22))
 (∃ n15, n15 < n10 ∧ ([.int .i64 a0_0, .int .i64 a0_1, .slice a0_2.a a0_2.n a0_2.c] : List Value) = [.int .i64 a0_0, .int .i64 a0_1, .slice a0_2.a a0_2.n a0_2.c] ∧ ([.int .i64 a1_0, .int .i64 a1_1, .int .i64 a1_2] : List Value) = [.int .i64 a1_0, .int .i64 a1_1, .int .i64 a1_2] ∧ ([.int .i64 a2_0, .int .i64 a2_1, .int .i64 a2_2] : List Value) = [.int .i64 a2_0, .int .i64 a2_1, .int .i64 a2_2] ∧ ([.int .i64 0, .int .i64 0, .slice none 0 0] : List Value) = [.int .i64 0, .int .i64 0, .slice none 0 0] ∧ I9 n15 ((IntKind.wrap .i64 (x12 + 1))) (x13) w22)))
 (Calls Tryd.prog n_ref05_Of #[.slice s8.a s8.n s8.c] w14 (fun e w24 => ∃ (s25 : Sl), e = .returned (.slice s25.a s25.n s25.c) ∧ w24.heap[w.heap.size]? = w14.heap[w.heap.size]? ∧ w24.heap[w0.heap.size]? = w14.heap[w0.heap.size]? ∧ w24.heap[w1.heap.size]? = w14.heap[w1.heap.size]? ∧ w24.heap[w2.heap.size]? = w14.heap[w2.heap.size]? ∧ 
 ∀ w26 : World, w26 = w24.setRow w.heap.size #[.int .i64 a0_0, .int .i64 a0_1, .slice s25.a s25.n s25.c] →
 ∀ w27 : World, w27 = w26.setRow w2.heap.size #[.int .i64 a0_0, .int .i64 a0_1, .slice s25.a s25.n s25.c] →
 R (.returned (.tuple #[.agg #[.int .i64 a0_0, .int .i64 a0_1, .slice s25.a s25.n s25.c], .int .i64 x13, .int .i64 0])) w27)))))
theorem ref11_Fill.vc {a0_0 a0_1 a0_2 a1_0 a1_1 a1_2 a2_0 a2_1 a2_2 a3 w} {R : Ending → World → Prop} (h : ref11_Fill.pre a0_0 a0_1 a0_2 a1_0 a1_1 a1_2 a2_0 a2_1 a2_2 a3 w R) : Calls Tryd.prog n_ref11_Fill #[.agg #[.int .i64 a0_0, .int .i64 a0_1, .slice a0_2.a a0_2.n a0_2.c], .agg #[.int .i64 a1_0, .int .i64 a1_1, .int .i64 a1_2], .agg #[.int .i64 a2_0, .int .i64 a2_1, .int .i64 a2_2], .int .i64 a3] w R :=
  calls_of_eq (an := ⟨[(7, ⟨[(14, .int .i64), (13, .int .i64)], [], []⟩)], [], []⟩) (args := [.agg #[.int .i64 a0_0, .int .i64 a0_1, .slice a0_2.a a0_2.n a0_2.c], .agg #[.int .i64 a1_0, .int .i64 a1_1, .int .i64 a1_2], .agg #[.int .i64 a2_0, .int .i64 a2_1, .int .i64 a2_2], .int .i64 a3]) Tryd.noNG Tryd.mixed Tryd.func49 h (by kernel_rfl)

/- breccia/brecciaref11.Set  -/
def ref11_Set.pre (a0_0 : Int) (a0_1 : Int) (a0_2 : Sl) (a1_0 : Int) (a1_1 : Int) (a1_2 : Int) (a2 : Int) (w : World) (R : Ending → World → Prop) : Prop :=
 ∀ w0 : World, w0 = w.alloc (.cells #[.int .i64 a0_0, .int .i64 a0_1, .slice a0_2.a a0_2.n a0_2.c] 38) →
 ∀ w1 : World, w1 = w0.alloc (.cells #[.int .i64 a1_0, .int .i64 a1_1, .int .i64 a1_2] 23) →
 ∀ w2 : World, w2 = w1.alloc (.cells #[.int .i64 0, .int .i64 0, .slice none 0 0] 38) →
 Calls Tryd.prog n_ref11_Index #[.agg #[.int .i64 a0_0, .int .i64 a0_1, .slice a0_2.a a0_2.n a0_2.c], .agg #[.int .i64 a1_0, .int .i64 a1_1, .int .i64 a1_2]] w2 (fun e w3 => ∃ (x4 : Int), e = .returned (.int .i64 x4) ∧ w3.heap[w.heap.size]? = w2.heap[w.heap.size]? ∧ w3.heap[w0.heap.size]? = w2.heap[w0.heap.size]? ∧ w3.heap[w1.heap.size]? = w2.heap[w1.heap.size]? ∧ 
 Br (decide ((x4 : Int) < 0))
 (∀ w5 : World, w5 = w3.setRow w1.heap.size #[.int .i64 a0_0, .int .i64 a0_1, .slice a0_2.a a0_2.n a0_2.c] →
 R (.returned (.tuple #[.agg #[.int .i64 a0_0, .int .i64 a0_1, .slice a0_2.a a0_2.n a0_2.c], .int .i64 5])) w5)
 (Calls Tryd.prog n_ref04_May #[.int .i64 a2] w3 (fun e w6 => ∃ (b7 : Bool), e = .returned (.bool b7) ∧ w6.heap[w.heap.size]? = w3.heap[w.heap.size]? ∧ w6.heap[w0.heap.size]? = w3.heap[w0.heap.size]? ∧ w6.heap[w1.heap.size]? = w3.heap[w1.heap.size]? ∧ 
 Br (!b7)
 (∀ w8 : World, w8 = w6.setRow w1.heap.size #[.int .i64 a0_0, .int .i64 a0_1, .slice a0_2.a a0_2.n a0_2.c] →
 R (.returned (.tuple #[.agg #[.int .i64 a0_0, .int .i64 a0_1, .slice a0_2.a a0_2.n a0_2.c], .int .i64 1])) w8)
 (Calls Tryd.prog n_ref05_Set #[.slice a0_2.a a0_2.n a0_2.c, .int .i64 x4, .int .i64 a2] w6 (fun e w9 => ∃ (s10 : Sl), e = .returned (.slice s10.a s10.n s10.c) ∧ w9.heap[w.heap.size]? = w6.heap[w.heap.size]? ∧ w9.heap[w0.heap.size]? = w6.heap[w0.heap.size]? ∧ w9.heap[w1.heap.size]? = w6.heap[w1.heap.size]? ∧ 
 ∀ w11 : World, w11 = w9.setRow w.heap.size #[.int .i64 a0_0, .int .i64 a0_1, .slice s10.a s10.n s10.c] →
 ∀ w12 : World, w12 = w11.setRow w1.heap.size #[.int .i64 a0_0, .int .i64 a0_1, .slice s10.a s10.n s10.c] →
 R (.returned (.tuple #[.agg #[.int .i64 a0_0, .int .i64 a0_1, .slice s10.a s10.n s10.c], .int .i64 0])) w12)))))
theorem ref11_Set.vc {a0_0 a0_1 a0_2 a1_0 a1_1 a1_2 a2 w} {R : Ending → World → Prop} (h : ref11_Set.pre a0_0 a0_1 a0_2 a1_0 a1_1 a1_2 a2 w R) : Calls Tryd.prog n_ref11_Set #[.agg #[.int .i64 a0_0, .int .i64 a0_1, .slice a0_2.a a0_2.n a0_2.c], .agg #[.int .i64 a1_0, .int .i64 a1_1, .int .i64 a1_2], .int .i64 a2] w R :=
  calls_of_eq (an := ⟨[], [], []⟩) (args := [.agg #[.int .i64 a0_0, .int .i64 a0_1, .slice a0_2.a a0_2.n a0_2.c], .agg #[.int .i64 a1_0, .int .i64 a1_1, .int .i64 a1_2], .int .i64 a2]) Tryd.noNG Tryd.mixed Tryd.func50 h (by kernel_rfl)

/- breccia/cell.Mod  -/
def cell_Mod.pre (a0 : Int) (a1 : Int) (w : World) (R : Ending → World → Prop) : Prop :=
 Br (decide ((a1 : Int) < 1))
 (R (.returned (.int .i64 0)) w)
 (AndL (nzC a1) (Br (decide (((Int.tmod a0 a1) : Int) < 0))
 (R (.returned (.int .i64 (IntKind.wrap .i64 ((Int.tmod a0 a1) + a1)))) w)
 (R (.returned (.int .i64 (Int.tmod a0 a1))) w)))
theorem cell_Mod.vc {a0 a1 w} {R : Ending → World → Prop} (h : cell_Mod.pre a0 a1 w R) : Calls Tryd.prog n_cell_Mod #[.int .i64 a0, .int .i64 a1] w R :=
  calls_of_eq (an := ⟨[], [], []⟩) (args := [.int .i64 a0, .int .i64 a1]) Tryd.noNG Tryd.mixed Tryd.func51 h (by kernel_rfl)

/- breccia/runs.All  -/
def runs_All.pre (a0 : Sl) (w : World) (R : Ending → World → Prop) : Prop :=
 ∀ w0 : World, w0 = w.alloc (.cells #[.slice a0.a a0.n a0.c] 36) →
 R (.returned (.func (.func 74) #[] #[.pointer (some ⟨w.heap.size, 0, none⟩)])) w0
theorem runs_All.vc {a0 w} {R : Ending → World → Prop} (h : runs_All.pre a0 w R) : Calls Tryd.prog n_runs_All #[.slice a0.a a0.n a0.c] w R :=
  calls_of_eq (an := ⟨[], [], []⟩) (args := [.slice a0.a a0.n a0.c]) Tryd.noNG Tryd.mixed Tryd.func52 h (by kernel_rfl)

/- breccia/brecciaref05.Cells  -/
def ref05_Cells.pre (a0 : Sl) (w : World) (R : Ending → World → Prop) : Prop :=
 ∃ I0 : Nat → Int → Sl → World → Prop,
 (∃ n1, I0 n1 (0) ⟨none, 0, 0⟩ w) ∧
 ∀ (n1 : Nat) (us2 : Nat → Value) (x3 : Int) (s4 : Sl) (w5 : World), I0 n1 x3 s4 w5 →
 Br (decide ((x3 : Int) < ((a0.n : Nat) : Int)))
 (∃ I7 : Nat → Int → Sl → World → Prop,
 (∃ n8, I7 n8 (0) ⟨s4.a, s4.n, s4.c⟩ w5) ∧
 ∀ (n8 : Nat) (us9 : Nat → Value) (x10 : Int) (s11 : Sl) (w12 : World), I7 n8 x10 s11 w12 →
 InB a0.a x3 a0.n ∧ AndL (nnC (padd a0.a ((x3 : Int).toNat * 2))) (∃ (x14 : Int), ld w12 (padd (padd a0.a ((x3 : Int).toNat * 2)) 0) = some (.int .i64 x14) ∧
 Br (decide ((x10 : Int) < x14))
 (InB a0.a x3 a0.n ∧ AndL (nnC (padd a0.a ((x3 : Int).toNat * 2))) (∃ (x15 : Int), ld w12 (padd (padd a0.a ((x3 : Int).toNat * 2)) 1) = some (.int .i64 x15) ∧
 ∀ w16 : World, w16 = w12.alloc (.cells #[.int .i64 x15] 3) →
 AppPre 8 1 w16 ⟨s11.a, s11.n, s11.c⟩ 1 [.int .i64 x15] ∧ ∀ (s17 : Sl) (w18 : World), AppRes 3 1 w16 ⟨s11.a, s11.n, s11.c⟩ 1 [.int .i64 x15] s17 w18 → w18.heap[w12.heap.size]? = w16.heap[w12.heap.size]? ∧ 
 ∃ n13, n13 < n8 ∧ I7 n13 ((IntKind.wrap .i64 (x10 + 1))) ⟨s17.a, s17.n, s17.c⟩ w18))
 (∃ n6, n6 < n1 ∧ I0 n6 ((IntKind.wrap .i64 (x3 + 1))) ⟨s11.a, s11.n, s11.c⟩ w12)))
 (R (.returned (.slice s4.a s4.n s4.c)) w5)
theorem ref05_Cells.vc {a0 w} {R : Ending → World → Prop} (h : ref05_Cells.pre a0 w R) : Calls Tryd.prog n_ref05_Cells #[.slice a0.a a0.n a0.c] w R :=
  calls_of_eq (an := ⟨[(6, ⟨[(5, .int .i64), (3, .slice)], [], []⟩), (3, ⟨[(4, .int .i64), (3, .slice)], [], []⟩)], [], []⟩) (args := [.slice a0.a a0.n a0.c]) Tryd.noNG Tryd.mixed Tryd.func53 h (by kernel_rfl)

/- (*breccia/chunk.Chunk).rows  -/
def chunk_Chunk_rows.pre (a0 : Addr) (a1_0 : Int) (a1_1 : Int) (a1_2 : Int) (a2_0 : Int) (a2_1 : Int) (a2_2 : Int) (w : World) (R : Ending → World → Prop) : Prop :=
 ∀ w0 : World, w0 = w.alloc (.cells #[.int .i64 a1_0, .int .i64 a1_1, .int .i64 a1_2] 23) →
 ∀ w1 : World, w1 = w0.alloc (.cells #[.int .i64 a2_0, .int .i64 a2_1, .int .i64 a2_2] 23) →
 ∃ (x2 : Int), ld w1.drew (padd (padd (padd (some a0) 0) 0) 0) = some (.int .i64 x2) ∧
 (Calls Tryd.prog n_chunk_Chunk_rows_1 #[.int .i64 a1_0, .int .i64 a2_0, .int .i64 (IntKind.wrap .i64 (x2 * 16))] w1.drew (fun e w3 => ∃ (x4 : Int) (x5 : Int), e = .returned (.tuple #[.int .i64 x4, .int .i64 x5]) ∧ w3.heap[w.heap.size]? = w1.drew.heap[w.heap.size]? ∧ w3.heap[w0.heap.size]? = w1.drew.heap[w0.heap.size]? ∧ 
 LoadL w3 (padd (padd (padd (some a0) 0) 0) 0) 0 [.int .i64 x2] ∧ (∀ w6 : World, w6 = w3.alloc (.cells #[.int .i64 0] 3) →
 ∀ w7 : World, w7 = w6.alloc (.cells #[.int .i64 0] 3) →
 ∀ w8 : World, w8 = w7.setRow w3.heap.size #[.int .i64 x4] →
 ∀ w9 : World, w9 = w8.setRow w6.heap.size #[.int .i64 x5] →
 ∃ (x10 : Int), ld w9.drew (padd (padd (padd (some a0) 0) 0) 1) = some (.int .i64 x10) ∧
 (Calls Tryd.prog n_chunk_Chunk_rows_1 #[.int .i64 a1_2, .int .i64 a2_2, .int .i64 (IntKind.wrap .i64 (x10 * 16))] w9.drew (fun e w11 => ∃ (x12 : Int) (x13 : Int), e = .returned (.tuple #[.int .i64 x12, .int .i64 x13]) ∧ w11.heap[w.heap.size]? = w9.drew.heap[w.heap.size]? ∧ w11.heap[w0.heap.size]? = w9.drew.heap[w0.heap.size]? ∧ w11.heap[w3.heap.size]? = w9.drew.heap[w3.heap.size]? ∧ w11.heap[w6.heap.size]? = w9.drew.heap[w6.heap.size]? ∧ 
 LoadL w11 (padd (padd (padd (some a0) 0) 0) 1) 0 [.int .i64 x10] ∧ (∀ w14 : World, w14 = w11.alloc (.cells #[.int .i64 0] 3) →
 ∀ w15 : World, w15 = w14.alloc (.cells #[.int .i64 0] 3) →
 ∀ w16 : World, w16 = w15.setRow w11.heap.size #[.int .i64 x12] →
 ∀ w17 : World, w17 = w16.setRow w14.heap.size #[.int .i64 x13] →
 R (.returned (.func (.func 76) #[] #[.pointer (some ⟨w.heap.size, 0, none⟩), .pointer (some ⟨w0.heap.size, 0, none⟩), .pointer (some ⟨w11.heap.size, 0, none⟩), .pointer (some ⟨w14.heap.size, 0, none⟩), .pointer (some ⟨w3.heap.size, 0, none⟩), .pointer (some ⟨w6.heap.size, 0, none⟩)])) w17) ∧ (∀ w18 : World, w18 = w11.alloc (.cells #[.int .i64 0] 3) →
 ∀ w19 : World, w19 = w18.alloc (.cells #[.int .i64 0] 3) →
 ∀ w20 : World, w20 = w19.setRow w18.heap.size #[.int .i64 x12] →
 ∀ w21 : World, w21 = w20.setRow w11.heap.size #[.int .i64 x13] →
 R (.returned (.func (.func 76) #[] #[.pointer (some ⟨w.heap.size, 0, none⟩), .pointer (some ⟨w0.heap.size, 0, none⟩), .pointer (some ⟨w18.heap.size, 0, none⟩), .pointer (some ⟨w11.heap.size, 0, none⟩), .pointer (some ⟨w3.heap.size, 0, none⟩), .pointer (some ⟨w6.heap.size, 0, none⟩)])) w21))) ∧ (∀ w22 : World, w22 = w9.drew.alloc (.cells #[.int .i64 0] 3) →
 (Calls Tryd.prog n_chunk_Chunk_rows_1 #[.int .i64 a1_2, .int .i64 a2_2, .int .i64 (IntKind.wrap .i64 (x10 * 16))] w22 (fun e w23 => ∃ (x24 : Int) (x25 : Int), e = .returned (.tuple #[.int .i64 x24, .int .i64 x25]) ∧ w23.heap[w.heap.size]? = w22.heap[w.heap.size]? ∧ w23.heap[w0.heap.size]? = w22.heap[w0.heap.size]? ∧ w23.heap[w3.heap.size]? = w22.heap[w3.heap.size]? ∧ w23.heap[w6.heap.size]? = w22.heap[w6.heap.size]? ∧ w23.heap[w9.drew.heap.size]? = w22.heap[w9.drew.heap.size]? ∧ 
 LoadL w23 (padd (padd (padd (some a0) 0) 0) 1) 0 [.int .i64 x10] ∧ ∀ w26 : World, w26 = w23.alloc (.cells #[.int .i64 0] 3) →
 ∀ w27 : World, w27 = w26.setRow w9.drew.heap.size #[.int .i64 x24] →
 ∀ w28 : World, w28 = w27.setRow w23.heap.size #[.int .i64 x25] →
 R (.returned (.func (.func 76) #[] #[.pointer (some ⟨w.heap.size, 0, none⟩), .pointer (some ⟨w0.heap.size, 0, none⟩), .pointer (some ⟨w9.drew.heap.size, 0, none⟩), .pointer (some ⟨w23.heap.size, 0, none⟩), .pointer (some ⟨w3.heap.size, 0, none⟩), .pointer (some ⟨w6.heap.size, 0, none⟩)])) w28)) ∧ (∀ w29 : World, w29 = w22.alloc (.cells #[.int .i64 0] 3) →
 Calls Tryd.prog n_chunk_Chunk_rows_1 #[.int .i64 a1_2, .int .i64 a2_2, .int .i64 (IntKind.wrap .i64 (x10 * 16))] w29 (fun e w30 => ∃ (x31 : Int) (x32 : Int), e = .returned (.tuple #[.int .i64 x31, .int .i64 x32]) ∧ w30.heap[w.heap.size]? = w29.heap[w.heap.size]? ∧ w30.heap[w0.heap.size]? = w29.heap[w0.heap.size]? ∧ w30.heap[w3.heap.size]? = w29.heap[w3.heap.size]? ∧ w30.heap[w6.heap.size]? = w29.heap[w6.heap.size]? ∧ w30.heap[w9.drew.heap.size]? = w29.heap[w9.drew.heap.size]? ∧ w30.heap[w22.heap.size]? = w29.heap[w22.heap.size]? ∧ 
 LoadL w30 (padd (padd (padd (some a0) 0) 0) 1) 0 [.int .i64 x10] ∧ ∀ w33 : World, w33 = w30.setRow w9.drew.heap.size #[.int .i64 x31] →
 ∀ w34 : World, w34 = w33.setRow w22.heap.size #[.int .i64 x32] →
 R (.returned (.func (.func 76) #[] #[.pointer (some ⟨w.heap.size, 0, none⟩), .pointer (some ⟨w0.heap.size, 0, none⟩), .pointer (some ⟨w9.drew.heap.size, 0, none⟩), .pointer (some ⟨w22.heap.size, 0, none⟩), .pointer (some ⟨w3.heap.size, 0, none⟩), .pointer (some ⟨w6.heap.size, 0, none⟩)])) w34))) ∧ (∀ w35 : World, w35 = w9.drew.alloc (.cells #[.int .i64 0] 3) →
 (Calls Tryd.prog n_chunk_Chunk_rows_1 #[.int .i64 a1_2, .int .i64 a2_2, .int .i64 (IntKind.wrap .i64 (x10 * 16))] w35 (fun e w36 => ∃ (x37 : Int) (x38 : Int), e = .returned (.tuple #[.int .i64 x37, .int .i64 x38]) ∧ w36.heap[w.heap.size]? = w35.heap[w.heap.size]? ∧ w36.heap[w0.heap.size]? = w35.heap[w0.heap.size]? ∧ w36.heap[w3.heap.size]? = w35.heap[w3.heap.size]? ∧ w36.heap[w6.heap.size]? = w35.heap[w6.heap.size]? ∧ w36.heap[w9.drew.heap.size]? = w35.heap[w9.drew.heap.size]? ∧ 
 LoadL w36 (padd (padd (padd (some a0) 0) 0) 1) 0 [.int .i64 x10] ∧ ∀ w39 : World, w39 = w36.alloc (.cells #[.int .i64 0] 3) →
 ∀ w40 : World, w40 = w39.setRow w36.heap.size #[.int .i64 x37] →
 ∀ w41 : World, w41 = w40.setRow w9.drew.heap.size #[.int .i64 x38] →
 R (.returned (.func (.func 76) #[] #[.pointer (some ⟨w.heap.size, 0, none⟩), .pointer (some ⟨w0.heap.size, 0, none⟩), .pointer (some ⟨w36.heap.size, 0, none⟩), .pointer (some ⟨w9.drew.heap.size, 0, none⟩), .pointer (some ⟨w3.heap.size, 0, none⟩), .pointer (some ⟨w6.heap.size, 0, none⟩)])) w41)) ∧ (∀ w42 : World, w42 = w35.alloc (.cells #[.int .i64 0] 3) →
 Calls Tryd.prog n_chunk_Chunk_rows_1 #[.int .i64 a1_2, .int .i64 a2_2, .int .i64 (IntKind.wrap .i64 (x10 * 16))] w42 (fun e w43 => ∃ (x44 : Int) (x45 : Int), e = .returned (.tuple #[.int .i64 x44, .int .i64 x45]) ∧ w43.heap[w.heap.size]? = w42.heap[w.heap.size]? ∧ w43.heap[w0.heap.size]? = w42.heap[w0.heap.size]? ∧ w43.heap[w3.heap.size]? = w42.heap[w3.heap.size]? ∧ w43.heap[w6.heap.size]? = w42.heap[w6.heap.size]? ∧ w43.heap[w9.drew.heap.size]? = w42.heap[w9.drew.heap.size]? ∧ w43.heap[w35.heap.size]? = w42.heap[w35.heap.size]? ∧ 
 LoadL w43 (padd (padd (padd (some a0) 0) 0) 1) 0 [.int .i64 x10] ∧ ∀ w46 : World, w46 = w43.setRow w35.heap.size #[.int .i64 x44] →
 ∀ w47 : World, w47 = w46.setRow w9.drew.heap.size #[.int .i64 x45] →
 R (.returned (.func (.func 76) #[] #[.pointer (some ⟨w.heap.size, 0, none⟩), .pointer (some ⟨w0.heap.size, 0, none⟩), .pointer (some ⟨w35.heap.size, 0, none⟩), .pointer (some ⟨w9.drew.heap.size, 0, none⟩), .pointer (some ⟨w3.heap.size, 0, none⟩), .pointer (some ⟨w6.heap.size, 0, none⟩)])) w47)))) ∧ (∀ w48 : World, w48 = w3.alloc (.cells #[.int .i64 0] 3) →
 ∀ w49 : World, w49 = w48.alloc (.cells #[.int .i64 0] 3) →
 ∀ w50 : World, w50 = w49.setRow w48.heap.size #[.int .i64 x4] →
 ∀ w51 : World, w51 = w50.setRow w3.heap.size #[.int .i64 x5] →
 ∃ (x52 : Int), ld w51.drew (padd (padd (padd (some a0) 0) 0) 1) = some (.int .i64 x52) ∧
 (Calls Tryd.prog n_chunk_Chunk_rows_1 #[.int .i64 a1_2, .int .i64 a2_2, .int .i64 (IntKind.wrap .i64 (x52 * 16))] w51.drew (fun e w53 => ∃ (x54 : Int) (x55 : Int), e = .returned (.tuple #[.int .i64 x54, .int .i64 x55]) ∧ w53.heap[w.heap.size]? = w51.drew.heap[w.heap.size]? ∧ w53.heap[w0.heap.size]? = w51.drew.heap[w0.heap.size]? ∧ w53.heap[w3.heap.size]? = w51.drew.heap[w3.heap.size]? ∧ w53.heap[w48.heap.size]? = w51.drew.heap[w48.heap.size]? ∧ 
 LoadL w53 (padd (padd (padd (some a0) 0) 0) 1) 0 [.int .i64 x52] ∧ (∀ w56 : World, w56 = w53.alloc (.cells #[.int .i64 0] 3) →
 ∀ w57 : World, w57 = w56.alloc (.cells #[.int .i64 0] 3) →
 ∀ w58 : World, w58 = w57.setRow w53.heap.size #[.int .i64 x54] →
 ∀ w59 : World, w59 = w58.setRow w56.heap.size #[.int .i64 x55] →
 R (.returned (.func (.func 76) #[] #[.pointer (some ⟨w.heap.size, 0, none⟩), .pointer (some ⟨w0.heap.size, 0, none⟩), .pointer (some ⟨w53.heap.size, 0, none⟩), .pointer (some ⟨w56.heap.size, 0, none⟩), .pointer (some ⟨w48.heap.size, 0, none⟩), .pointer (some ⟨w3.heap.size, 0, none⟩)])) w59) ∧ (∀ w60 : World, w60 = w53.alloc (.cells #[.int .i64 0] 3) →
 ∀ w61 : World, w61 = w60.alloc (.cells #[.int .i64 0] 3) →
 ∀ w62 : World, w62 = w61.setRow w60.heap.size #[.int .i64 x54] →
 ∀ w63 : World, w63 = w62.setRow w53.heap.size #[.int .i64 x55] →
 R (.returned (.func (.func 76) #[] #[.pointer (some ⟨w.heap.size, 0, none⟩), .pointer (some ⟨w0.heap.size, 0, none⟩), .pointer (some ⟨w60.heap.size, 0, none⟩), .pointer (some ⟨w53.heap.size, 0, none⟩), .pointer (some ⟨w48.heap.size, 0, none⟩), .pointer (some ⟨w3.heap.size, 0, none⟩)])) w63))) ∧ (∀ w64 : World, w64 = w51.drew.alloc (.cells #[.int .i64 0] 3) →
 (Calls Tryd.prog n_chunk_Chunk_rows_1 #[.int .i64 a1_2, .int .i64 a2_2, .int .i64 (IntKind.wrap .i64 (x52 * 16))] w64 (fun e w65 => ∃ (x66 : Int) (x67 : Int), e = .returned (.tuple #[.int .i64 x66, .int .i64 x67]) ∧ w65.heap[w.heap.size]? = w64.heap[w.heap.size]? ∧ w65.heap[w0.heap.size]? = w64.heap[w0.heap.size]? ∧ w65.heap[w3.heap.size]? = w64.heap[w3.heap.size]? ∧ w65.heap[w48.heap.size]? = w64.heap[w48.heap.size]? ∧ w65.heap[w51.drew.heap.size]? = w64.heap[w51.drew.heap.size]? ∧ 
 LoadL w65 (padd (padd (padd (some a0) 0) 0) 1) 0 [.int .i64 x52] ∧ ∀ w68 : World, w68 = w65.alloc (.cells #[.int .i64 0] 3) →
 ∀ w69 : World, w69 = w68.setRow w51.drew.heap.size #[.int .i64 x66] →
 ∀ w70 : World, w70 = w69.setRow w65.heap.size #[.int .i64 x67] →
 R (.returned (.func (.func 76) #[] #[.pointer (some ⟨w.heap.size, 0, none⟩), .pointer (some ⟨w0.heap.size, 0, none⟩), .pointer (some ⟨w51.drew.heap.size, 0, none⟩), .pointer (some ⟨w65.heap.size, 0, none⟩), .pointer (some ⟨w48.heap.size, 0, none⟩), .pointer (some ⟨w3.heap.size, 0, none⟩)])) w70)) ∧ (∀ w71 : World, w71 = w64.alloc (.cells #[.int .i64 0] 3) →
 Calls Tryd.prog n_chunk_Chunk_rows_1 #[.int .i64 a1_2, .int .i64 a2_2, .int .i64 (IntKind.wrap .i64 (x52 * 16))] w71 (fun e w72 => ∃ (x73 : Int) (x74 : Int), e = .returned (.tuple #[.int .i64 x73, .int .i64 x74]) ∧ w72.heap[w.heap.size]? = w71.heap[w.heap.size]? ∧ w72.heap[w0.heap.size]? = w71.heap[w0.heap.size]? ∧ w72.heap[w3.heap.size]? = w71.heap[w3.heap.size]? ∧ w72.heap[w48.heap.size]? = w71.heap[w48.heap.size]? ∧ w72.heap[w51.drew.heap.size]? = w71.heap[w51.drew.heap.size]? ∧ w72.heap[w64.heap.size]? = w71.heap[w64.heap.size]? ∧ 
 LoadL w72 (padd (padd (padd (some a0) 0) 0) 1) 0 [.int .i64 x52] ∧ ∀ w75 : World, w75 = w72.setRow w51.drew.heap.size #[.int .i64 x73] →
 ∀ w76 : World, w76 = w75.setRow w64.heap.size #[.int .i64 x74] →
 R (.returned (.func (.func 76) #[] #[.pointer (some ⟨w.heap.size, 0, none⟩), .pointer (some ⟨w0.heap.size, 0, none⟩), .pointer (some ⟨w51.drew.heap.size, 0, none⟩), .pointer (some ⟨w64.heap.size, 0, none⟩), .pointer (some ⟨w48.heap.size, 0, none⟩), .pointer (some ⟨w3.heap.size, 0, none⟩)])) w76))) ∧ (∀ w77 : World, w77 = w51.drew.alloc (.cells #[.int .i64 0] 3) →
 (Calls Tryd.prog n_chunk_Chunk_rows_1 #[.int .i64 a1_2, .int .i64 a2_2, .int .i64 (IntKind.wrap .i64 (x52 * 16))] w77 (fun e w78 => ∃ (x79 : Int) (x80 : Int), e = .returned (.tuple #[.int .i64 x79, .int .i64 x80]) ∧ w78.heap[w.heap.size]? = w77.heap[w.heap.size]? ∧ w78.heap[w0.heap.size]? = w77.heap[w0.heap.size]? ∧ w78.heap[w3.heap.size]? = w77.heap[w3.heap.size]? ∧ w78.heap[w48.heap.size]? = w77.heap[w48.heap.size]? ∧ w78.heap[w51.drew.heap.size]? = w77.heap[w51.drew.heap.size]? ∧ 
 LoadL w78 (padd (padd (padd (some a0) 0) 0) 1) 0 [.int .i64 x52] ∧ ∀ w81 : World, w81 = w78.alloc (.cells #[.int .i64 0] 3) →
 ∀ w82 : World, w82 = w81.setRow w78.heap.size #[.int .i64 x79] →
 ∀ w83 : World, w83 = w82.setRow w51.drew.heap.size #[.int .i64 x80] →
 R (.returned (.func (.func 76) #[] #[.pointer (some ⟨w.heap.size, 0, none⟩), .pointer (some ⟨w0.heap.size, 0, none⟩), .pointer (some ⟨w78.heap.size, 0, none⟩), .pointer (some ⟨w51.drew.heap.size, 0, none⟩), .pointer (some ⟨w48.heap.size, 0, none⟩), .pointer (some ⟨w3.heap.size, 0, none⟩)])) w83)) ∧ (∀ w84 : World, w84 = w77.alloc (.cells #[.int .i64 0] 3) →
 Calls Tryd.prog n_chunk_Chunk_rows_1 #[.int .i64 a1_2, .int .i64 a2_2, .int .i64 (IntKind.wrap .i64 (x52 * 16))] w84 (fun e w85 => ∃ (x86 : Int) (x87 : Int), e = .returned (.tuple #[.int .i64 x86, .int .i64 x87]) ∧ w85.heap[w.heap.size]? = w84.heap[w.heap.size]? ∧ w85.heap[w0.heap.size]? = w84.heap[w0.heap.size]? ∧ w85.heap[w3.heap.size]? = w84.heap[w3.heap.size]? ∧ w85.heap[w48.heap.size]? = w84.heap[w48.heap.size]? ∧ w85.heap[w51.drew.heap.size]? = w84.heap[w51.drew.heap.size]? ∧ w85.heap[w77.heap.size]? = w84.heap[w77.heap.size]? ∧ 
 LoadL w85 (padd (padd (padd (some a0) 0) 0) 1) 0 [.int .i64 x52] ∧ ∀ w88 : World, w88 = w85.setRow w77.heap.size #[.int .i64 x86] →
 ∀ w89 : World, w89 = w88.setRow w51.drew.heap.size #[.int .i64 x87] →
 R (.returned (.func (.func 76) #[] #[.pointer (some ⟨w.heap.size, 0, none⟩), .pointer (some ⟨w0.heap.size, 0, none⟩), .pointer (some ⟨w77.heap.size, 0, none⟩), .pointer (some ⟨w51.drew.heap.size, 0, none⟩), .pointer (some ⟨w48.heap.size, 0, none⟩), .pointer (some ⟨w3.heap.size, 0, none⟩)])) w89)))))) ∧ (∀ w90 : World, w90 = w1.drew.alloc (.cells #[.int .i64 0] 3) →
 (Calls Tryd.prog n_chunk_Chunk_rows_1 #[.int .i64 a1_0, .int .i64 a2_0, .int .i64 (IntKind.wrap .i64 (x2 * 16))] w90 (fun e w91 => ∃ (x92 : Int) (x93 : Int), e = .returned (.tuple #[.int .i64 x92, .int .i64 x93]) ∧ w91.heap[w.heap.size]? = w90.heap[w.heap.size]? ∧ w91.heap[w0.heap.size]? = w90.heap[w0.heap.size]? ∧ w91.heap[w1.drew.heap.size]? = w90.heap[w1.drew.heap.size]? ∧ 
 LoadL w91 (padd (padd (padd (some a0) 0) 0) 0) 0 [.int .i64 x2] ∧ ∀ w94 : World, w94 = w91.alloc (.cells #[.int .i64 0] 3) →
 ∀ w95 : World, w95 = w94.setRow w1.drew.heap.size #[.int .i64 x92] →
 ∀ w96 : World, w96 = w95.setRow w91.heap.size #[.int .i64 x93] →
 ∃ (x97 : Int), ld w96.drew (padd (padd (padd (some a0) 0) 0) 1) = some (.int .i64 x97) ∧
 (Calls Tryd.prog n_chunk_Chunk_rows_1 #[.int .i64 a1_2, .int .i64 a2_2, .int .i64 (IntKind.wrap .i64 (x97 * 16))] w96.drew (fun e w98 => ∃ (x99 : Int) (x100 : Int), e = .returned (.tuple #[.int .i64 x99, .int .i64 x100]) ∧ w98.heap[w.heap.size]? = w96.drew.heap[w.heap.size]? ∧ w98.heap[w0.heap.size]? = w96.drew.heap[w0.heap.size]? ∧ w98.heap[w1.drew.heap.size]? = w96.drew.heap[w1.drew.heap.size]? ∧ w98.heap[w91.heap.size]? = w96.drew.heap[w91.heap.size]? ∧ 
 LoadL w98 (padd (padd (padd (some a0) 0) 0) 1) 0 [.int .i64 x97] ∧ (∀ w101 : World, w101 = w98.alloc (.cells #[.int .i64 0] 3) →
 ∀ w102 : World, w102 = w101.alloc (.cells #[.int .i64 0] 3) →
 ∀ w103 : World, w103 = w102.setRow w98.heap.size #[.int .i64 x99] →
 ∀ w104 : World, w104 = w103.setRow w101.heap.size #[.int .i64 x100] →
 R (.returned (.func (.func 76) #[] #[.pointer (some ⟨w.heap.size, 0, none⟩), .pointer (some ⟨w0.heap.size, 0, none⟩), .pointer (some ⟨w98.heap.size, 0, none⟩), .pointer (some ⟨w101.heap.size, 0, none⟩), .pointer (some ⟨w1.drew.heap.size, 0, none⟩), .pointer (some ⟨w91.heap.size, 0, none⟩)])) w104) ∧ (∀ w105 : World, w105 = w98.alloc (.cells #[.int .i64 0] 3) →
 ∀ w106 : World, w106 = w105.alloc (.cells #[.int .i64 0] 3) →
 ∀ w107 : World, w107 = w106.setRow w105.heap.size #[.int .i64 x99] →
 ∀ w108 : World, w108 = w107.setRow w98.heap.size #[.int .i64 x100] →
 R (.returned (.func (.func 76) #[] #[.pointer (some ⟨w.heap.size, 0, none⟩), .pointer (some ⟨w0.heap.size, 0, none⟩), .pointer (some ⟨w105.heap.size, 0, none⟩), .pointer (some ⟨w98.heap.size, 0, none⟩), .pointer (some ⟨w1.drew.heap.size, 0, none⟩), .pointer (some ⟨w91.heap.size, 0, none⟩)])) w108))) ∧ (∀ w109 : World, w109 = w96.drew.alloc (.cells #[.int .i64 0] 3) →
 (Calls Tryd.prog n_chunk_Chunk_rows_1 #[.int .i64 a1_2, .int .i64 a2_2, .int .i64 (IntKind.wrap .i64 (x97 * 16))] w109 (fun e w110 => ∃ (x111 : Int) (x112 : Int), e = .returned (.tuple #[.int .i64 x111, .int .i64 x112]) ∧ w110.heap[w.heap.size]? = w109.heap[w.heap.size]? ∧ w110.heap[w0.heap.size]? = w109.heap[w0.heap.size]? ∧ w110.heap[w1.drew.heap.size]? = w109.heap[w1.drew.heap.size]? ∧ w110.heap[w91.heap.size]? = w109.heap[w91.heap.size]? ∧ w110.heap[w96.drew.heap.size]? = w109.heap[w96.drew.heap.size]? ∧ 
 LoadL w110 (padd (padd (padd (some a0) 0) 0) 1) 0 [.int .i64 x97] ∧ ∀ w113 : World, w113 = w110.alloc (.cells #[.int .i64 0] 3) →
 ∀ w114 : World, w114 = w113.setRow w96.drew.heap.size #[.int .i64 x111] →
 ∀ w115 : World, w115 = w114.setRow w110.heap.size #[.int .i64 x112] →
 R (.returned (.func (.func 76) #[] #[.pointer (some ⟨w.heap.size, 0, none⟩), .pointer (some ⟨w0.heap.size, 0, none⟩), .pointer (some ⟨w96.drew.heap.size, 0, none⟩), .pointer (some ⟨w110.heap.size, 0, none⟩), .pointer (some ⟨w1.drew.heap.size, 0, none⟩), .pointer (some ⟨w91.heap.size, 0, none⟩)])) w115)) ∧ (∀ w116 : World, w116 = w109.alloc (.cells #[.int .i64 0] 3) →
 Calls Tryd.prog n_chunk_Chunk_rows_1 #[.int .i64 a1_2, .int .i64 a2_2, .int .i64 (IntKind.wrap .i64 (x97 * 16))] w116 (fun e w117 => ∃ (x118 : Int) (x119 : Int), e = .returned (.tuple #[.int .i64 x118, .int .i64 x119]) ∧ w117.heap[w.heap.size]? = w116.heap[w.heap.size]? ∧ w117.heap[w0.heap.size]? = w116.heap[w0.heap.size]? ∧ w117.heap[w1.drew.heap.size]? = w116.heap[w1.drew.heap.size]? ∧ w117.heap[w91.heap.size]? = w116.heap[w91.heap.size]? ∧ w117.heap[w96.drew.heap.size]? = w116.heap[w96.drew.heap.size]? ∧ w117.heap[w109.heap.size]? = w116.heap[w109.heap.size]? ∧ 
 LoadL w117 (padd (padd (padd (some a0) 0) 0) 1) 0 [.int .i64 x97] ∧ ∀ w120 : World, w120 = w117.setRow w96.drew.heap.size #[.int .i64 x118] →
 ∀ w121 : World, w121 = w120.setRow w109.heap.size #[.int .i64 x119] →
 R (.returned (.func (.func 76) #[] #[.pointer (some ⟨w.heap.size, 0, none⟩), .pointer (some ⟨w0.heap.size, 0, none⟩), .pointer (some ⟨w96.drew.heap.size, 0, none⟩), .pointer (some ⟨w109.heap.size, 0, none⟩), .pointer (some ⟨w1.drew.heap.size, 0, none⟩), .pointer (some ⟨w91.heap.size, 0, none⟩)])) w121))) ∧ (∀ w122 : World, w122 = w96.drew.alloc (.cells #[.int .i64 0] 3) →
 (Calls Tryd.prog n_chunk_Chunk_rows_1 #[.int .i64 a1_2, .int .i64 a2_2, .int .i64 (IntKind.wrap .i64 (x97 * 16))] w122 (fun e w123 => ∃ (x124 : Int) (x125 : Int), e = .returned (.tuple #[.int .i64 x124, .int .i64 x125]) ∧ w123.heap[w.heap.size]? = w122.heap[w.heap.size]? ∧ w123.heap[w0.heap.size]? = w122.heap[w0.heap.size]? ∧ w123.heap[w1.drew.heap.size]? = w122.heap[w1.drew.heap.size]? ∧ w123.heap[w91.heap.size]? = w122.heap[w91.heap.size]? ∧ w123.heap[w96.drew.heap.size]? = w122.heap[w96.drew.heap.size]? ∧ 
 LoadL w123 (padd (padd (padd (some a0) 0) 0) 1) 0 [.int .i64 x97] ∧ ∀ w126 : World, w126 = w123.alloc (.cells #[.int .i64 0] 3) →
 ∀ w127 : World, w127 = w126.setRow w123.heap.size #[.int .i64 x124] →
 ∀ w128 : World, w128 = w127.setRow w96.drew.heap.size #[.int .i64 x125] →
 R (.returned (.func (.func 76) #[] #[.pointer (some ⟨w.heap.size, 0, none⟩), .pointer (some ⟨w0.heap.size, 0, none⟩), .pointer (some ⟨w123.heap.size, 0, none⟩), .pointer (some ⟨w96.drew.heap.size, 0, none⟩), .pointer (some ⟨w1.drew.heap.size, 0, none⟩), .pointer (some ⟨w91.heap.size, 0, none⟩)])) w128)) ∧ (∀ w129 : World, w129 = w122.alloc (.cells #[.int .i64 0] 3) →
 Calls Tryd.prog n_chunk_Chunk_rows_1 #[.int .i64 a1_2, .int .i64 a2_2, .int .i64 (IntKind.wrap .i64 (x97 * 16))] w129 (fun e w130 => ∃ (x131 : Int) (x132 : Int), e = .returned (.tuple #[.int .i64 x131, .int .i64 x132]) ∧ w130.heap[w.heap.size]? = w129.heap[w.heap.size]? ∧ w130.heap[w0.heap.size]? = w129.heap[w0.heap.size]? ∧ w130.heap[w1.drew.heap.size]? = w129.heap[w1.drew.heap.size]? ∧ w130.heap[w91.heap.size]? = w129.heap[w91.heap.size]? ∧ w130.heap[w96.drew.heap.size]? = w129.heap[w96.drew.heap.size]? ∧ w130.heap[w122.heap.size]? = w129.heap[w122.heap.size]? ∧ 
 LoadL w130 (padd (padd (padd (some a0) 0) 0) 1) 0 [.int .i64 x97] ∧ ∀ w133 : World, w133 = w130.setRow w122.heap.size #[.int .i64 x131] →
 ∀ w134 : World, w134 = w133.setRow w96.drew.heap.size #[.int .i64 x132] →
 R (.returned (.func (.func 76) #[] #[.pointer (some ⟨w.heap.size, 0, none⟩), .pointer (some ⟨w0.heap.size, 0, none⟩), .pointer (some ⟨w122.heap.size, 0, none⟩), .pointer (some ⟨w96.drew.heap.size, 0, none⟩), .pointer (some ⟨w1.drew.heap.size, 0, none⟩), .pointer (some ⟨w91.heap.size, 0, none⟩)])) w134))))) ∧ (∀ w135 : World, w135 = w90.alloc (.cells #[.int .i64 0] 3) →
 Calls Tryd.prog n_chunk_Chunk_rows_1 #[.int .i64 a1_0, .int .i64 a2_0, .int .i64 (IntKind.wrap .i64 (x2 * 16))] w135 (fun e w136 => ∃ (x137 : Int) (x138 : Int), e = .returned (.tuple #[.int .i64 x137, .int .i64 x138]) ∧ w136.heap[w.heap.size]? = w135.heap[w.heap.size]? ∧ w136.heap[w0.heap.size]? = w135.heap[w0.heap.size]? ∧ w136.heap[w1.drew.heap.size]? = w135.heap[w1.drew.heap.size]? ∧ w136.heap[w90.heap.size]? = w135.heap[w90.heap.size]? ∧ 
 LoadL w136 (padd (padd (padd (some a0) 0) 0) 0) 0 [.int .i64 x2] ∧ ∀ w139 : World, w139 = w136.setRow w1.drew.heap.size #[.int .i64 x137] →
 ∀ w140 : World, w140 = w139.setRow w90.heap.size #[.int .i64 x138] →
 ∃ (x141 : Int), ld w140.drew (padd (padd (padd (some a0) 0) 0) 1) = some (.int .i64 x141) ∧
 (Calls Tryd.prog n_chunk_Chunk_rows_1 #[.int .i64 a1_2, .int .i64 a2_2, .int .i64 (IntKind.wrap .i64 (x141 * 16))] w140.drew (fun e w142 => ∃ (x143 : Int) (x144 : Int), e = .returned (.tuple #[.int .i64 x143, .int .i64 x144]) ∧ w142.heap[w.heap.size]? = w140.drew.heap[w.heap.size]? ∧ w142.heap[w0.heap.size]? = w140.drew.heap[w0.heap.size]? ∧ w142.heap[w1.drew.heap.size]? = w140.drew.heap[w1.drew.heap.size]? ∧ w142.heap[w90.heap.size]? = w140.drew.heap[w90.heap.size]? ∧ 
 LoadL w142 (padd (padd (padd (some a0) 0) 0) 1) 0 [.int .i64 x141] ∧ (∀ w145 : World, w145 = w142.alloc (.cells #[.int .i64 0] 3) →
 ∀ w146 : World, w146 = w145.alloc (.cells #[.int .i64 0] 3) →
 ∀ w147 : World, w147 = w146.setRow w142.heap.size #[.int .i64 x143] →
 ∀ w148 : World, w148 = w147.setRow w145.heap.size #[.int .i64 x144] →
 R (.returned (.func (.func 76) #[] #[.pointer (some ⟨w.heap.size, 0, none⟩), .pointer (some ⟨w0.heap.size, 0, none⟩), .pointer (some ⟨w142.heap.size, 0, none⟩), .pointer (some ⟨w145.heap.size, 0, none⟩), .pointer (some ⟨w1.drew.heap.size, 0, none⟩), .pointer (some ⟨w90.heap.size, 0, none⟩)])) w148) ∧ (∀ w149 : World, w149 = w142.alloc (.cells #[.int .i64 0] 3) →
 ∀ w150 : World, w150 = w149.alloc (.cells #[.int .i64 0] 3) →
 ∀ w151 : World, w151 = w150.setRow w149.heap.size #[.int .i64 x143] →
 ∀ w152 : World, w152 = w151.setRow w142.heap.size #[.int .i64 x144] →
 R (.returned (.func (.func 76) #[] #[.pointer (some ⟨w.heap.size, 0, none⟩), .pointer (some ⟨w0.heap.size, 0, none⟩), .pointer (some ⟨w149.heap.size, 0, none⟩), .pointer (some ⟨w142.heap.size, 0, none⟩), .pointer (some ⟨w1.drew.heap.size, 0, none⟩), .pointer (some ⟨w90.heap.size, 0, none⟩)])) w152))) ∧ (∀ w153 : World, w153 = w140.drew.alloc (.cells #[.int .i64 0] 3) →
 (Calls Tryd.prog n_chunk_Chunk_rows_1 #[.int .i64 a1_2, .int .i64 a2_2, .int .i64 (IntKind.wrap .i64 (x141 * 16))] w153 (fun e w154 => ∃ (x155 : Int) (x156 : Int), e = .returned (.tuple #[.int .i64 x155, .int .i64 x156]) ∧ w154.heap[w.heap.size]? = w153.heap[w.heap.size]? ∧ w154.heap[w0.heap.size]? = w153.heap[w0.heap.size]? ∧ w154.heap[w1.drew.heap.size]? = w153.heap[w1.drew.heap.size]? ∧ w154.heap[w90.heap.size]? = w153.heap[w90.heap.size]? ∧ w154.heap[w140.drew.heap.size]? = w153.heap[w140.drew.heap.size]? ∧ 
 LoadL w154 (padd (padd (padd (some a0) 0) 0) 1) 0 [.int .i64 x141] ∧ ∀ w157 : World, w157 = w154.alloc (.cells #[.int .i64 0] 3) →
 ∀ w158 : World, w158 = w157.setRow w140.drew.heap.size #[.int .i64 x155] →
 ∀ w159 : World, w159 = w158.setRow w154.heap.size #[.int .i64 x156] →
 R (.returned (.func (.func 76) #[] #[.pointer (some ⟨w.heap.size, 0, none⟩), .pointer (some ⟨w0.heap.size, 0, none⟩), .pointer (some ⟨w140.drew.heap.size, 0, none⟩), .pointer (some ⟨w154.heap.size, 0, none⟩), .pointer (some ⟨w1.drew.heap.size, 0, none⟩), .pointer (some ⟨w90.heap.size, 0, none⟩)])) w159)) ∧ (∀ w160 : World, w160 = w153.alloc (.cells #[.int .i64 0] 3) →
 Calls Tryd.prog n_chunk_Chunk_rows_1 #[.int .i64 a1_2, .int .i64 a2_2, .int .i64 (IntKind.wrap .i64 (x141 * 16))] w160 (fun e w161 => ∃ (x162 : Int) (x163 : Int), e = .returned (.tuple #[.int .i64 x162, .int .i64 x163]) ∧ w161.heap[w.heap.size]? = w160.heap[w.heap.size]? ∧ w161.heap[w0.heap.size]? = w160.heap[w0.heap.size]? ∧ w161.heap[w1.drew.heap.size]? = w160.heap[w1.drew.heap.size]? ∧ w161.heap[w90.heap.size]? = w160.heap[w90.heap.size]? ∧ w161.heap[w140.drew.heap.size]? = w160.heap[w140.drew.heap.size]? ∧ w161.heap[w153.heap.size]? = w160.heap[w153.heap.size]? ∧ 
 LoadL w161 (padd (padd (padd (some a0) 0) 0) 1) 0 [.int .i64 x141] ∧ ∀ w164 : World, w164 = w161.setRow w140.drew.heap.size #[.int .i64 x162] →
 ∀ w165 : World, w165 = w164.setRow w153.heap.size #[.int .i64 x163] →
 R (.returned (.func (.func 76) #[] #[.pointer (some ⟨w.heap.size, 0, none⟩), .pointer (some ⟨w0.heap.size, 0, none⟩), .pointer (some ⟨w140.drew.heap.size, 0, none⟩), .pointer (some ⟨w153.heap.size, 0, none⟩), .pointer (some ⟨w1.drew.heap.size, 0, none⟩), .pointer (some ⟨w90.heap.size, 0, none⟩)])) w165))) ∧ (∀ w166 : World, w166 = w140.drew.alloc (.cells #[.int .i64 0] 3) →
 (Calls Tryd.prog n_chunk_Chunk_rows_1 #[.int .i64 a1_2, .int .i64 a2_2, .int .i64 (IntKind.wrap .i64 (x141 * 16))] w166 (fun e w167 => ∃ (x168 : Int) (x169 : Int), e = .returned (.tuple #[.int .i64 x168, .int .i64 x169]) ∧ w167.heap[w.heap.size]? = w166.heap[w.heap.size]? ∧ w167.heap[w0.heap.size]? = w166.heap[w0.heap.size]? ∧ w167.heap[w1.drew.heap.size]? = w166.heap[w1.drew.heap.size]? ∧ w167.heap[w90.heap.size]? = w166.heap[w90.heap.size]? ∧ w167.heap[w140.drew.heap.size]? = w166.heap[w140.drew.heap.size]? ∧ 
 LoadL w167 (padd (padd (padd (some a0) 0) 0) 1) 0 [.int .i64 x141] ∧ ∀ w170 : World, w170 = w167.alloc (.cells #[.int .i64 0] 3) →
 ∀ w171 : World, w171 = w170.setRow w167.heap.size #[.int .i64 x168] →
 ∀ w172 : World, w172 = w171.setRow w140.drew.heap.size #[.int .i64 x169] →
 R (.returned (.func (.func 76) #[] #[.pointer (some ⟨w.heap.size, 0, none⟩), .pointer (some ⟨w0.heap.size, 0, none⟩), .pointer (some ⟨w167.heap.size, 0, none⟩), .pointer (some ⟨w140.drew.heap.size, 0, none⟩), .pointer (some ⟨w1.drew.heap.size, 0, none⟩), .pointer (some ⟨w90.heap.size, 0, none⟩)])) w172)) ∧ (∀ w173 : World, w173 = w166.alloc (.cells #[.int .i64 0] 3) →
 Calls Tryd.prog n_chunk_Chunk_rows_1 #[.int .i64 a1_2, .int .i64 a2_2, .int .i64 (IntKind.wrap .i64 (x141 * 16))] w173 (fun e w174 => ∃ (x175 : Int) (x176 : Int), e = .returned (.tuple #[.int .i64 x175, .int .i64 x176]) ∧ w174.heap[w.heap.size]? = w173.heap[w.heap.size]? ∧ w174.heap[w0.heap.size]? = w173.heap[w0.heap.size]? ∧ w174.heap[w1.drew.heap.size]? = w173.heap[w1.drew.heap.size]? ∧ w174.heap[w90.heap.size]? = w173.heap[w90.heap.size]? ∧ w174.heap[w140.drew.heap.size]? = w173.heap[w140.drew.heap.size]? ∧ w174.heap[w166.heap.size]? = w173.heap[w166.heap.size]? ∧ 
 LoadL w174 (padd (padd (padd (some a0) 0) 0) 1) 0 [.int .i64 x141] ∧ ∀ w177 : World, w177 = w174.setRow w166.heap.size #[.int .i64 x175] →
 ∀ w178 : World, w178 = w177.setRow w140.drew.heap.size #[.int .i64 x176] →
 R (.returned (.func (.func 76) #[] #[.pointer (some ⟨w.heap.size, 0, none⟩), .pointer (some ⟨w0.heap.size, 0, none⟩), .pointer (some ⟨w166.heap.size, 0, none⟩), .pointer (some ⟨w140.drew.heap.size, 0, none⟩), .pointer (some ⟨w1.drew.heap.size, 0, none⟩), .pointer (some ⟨w90.heap.size, 0, none⟩)])) w178)))))) ∧ (∀ w179 : World, w179 = w1.drew.alloc (.cells #[.int .i64 0] 3) →
 (Calls Tryd.prog n_chunk_Chunk_rows_1 #[.int .i64 a1_0, .int .i64 a2_0, .int .i64 (IntKind.wrap .i64 (x2 * 16))] w179 (fun e w180 => ∃ (x181 : Int) (x182 : Int), e = .returned (.tuple #[.int .i64 x181, .int .i64 x182]) ∧ w180.heap[w.heap.size]? = w179.heap[w.heap.size]? ∧ w180.heap[w0.heap.size]? = w179.heap[w0.heap.size]? ∧ w180.heap[w1.drew.heap.size]? = w179.heap[w1.drew.heap.size]? ∧ 
 LoadL w180 (padd (padd (padd (some a0) 0) 0) 0) 0 [.int .i64 x2] ∧ ∀ w183 : World, w183 = w180.alloc (.cells #[.int .i64 0] 3) →
 ∀ w184 : World, w184 = w183.setRow w180.heap.size #[.int .i64 x181] →
 ∀ w185 : World, w185 = w184.setRow w1.drew.heap.size #[.int .i64 x182] →
 ∃ (x186 : Int), ld w185.drew (padd (padd (padd (some a0) 0) 0) 1) = some (.int .i64 x186) ∧
 (Calls Tryd.prog n_chunk_Chunk_rows_1 #[.int .i64 a1_2, .int .i64 a2_2, .int .i64 (IntKind.wrap .i64 (x186 * 16))] w185.drew (fun e w187 => ∃ (x188 : Int) (x189 : Int), e = .returned (.tuple #[.int .i64 x188, .int .i64 x189]) ∧ w187.heap[w.heap.size]? = w185.drew.heap[w.heap.size]? ∧ w187.heap[w0.heap.size]? = w185.drew.heap[w0.heap.size]? ∧ w187.heap[w1.drew.heap.size]? = w185.drew.heap[w1.drew.heap.size]? ∧ w187.heap[w180.heap.size]? = w185.drew.heap[w180.heap.size]? ∧ 
 LoadL w187 (padd (padd (padd (some a0) 0) 0) 1) 0 [.int .i64 x186] ∧ (∀ w190 : World, w190 = w187.alloc (.cells #[.int .i64 0] 3) →
 ∀ w191 : World, w191 = w190.alloc (.cells #[.int .i64 0] 3) →
 ∀ w192 : World, w192 = w191.setRow w187.heap.size #[.int .i64 x188] →
 ∀ w193 : World, w193 = w192.setRow w190.heap.size #[.int .i64 x189] →
 R (.returned (.func (.func 76) #[] #[.pointer (some ⟨w.heap.size, 0, none⟩), .pointer (some ⟨w0.heap.size, 0, none⟩), .pointer (some ⟨w187.heap.size, 0, none⟩), .pointer (some ⟨w190.heap.size, 0, none⟩), .pointer (some ⟨w180.heap.size, 0, none⟩), .pointer (some ⟨w1.drew.heap.size, 0, none⟩)])) w193) ∧ (∀ w194 : World, w194 = w187.alloc (.cells #[.int .i64 0] 3) →
 ∀ w195 : World, w195 = w194.alloc (.cells #[.int .i64 0] 3) →
 ∀ w196 : World, w196 = w195.setRow w194.heap.size #[.int .i64 x188] →
 ∀ w197 : World, w197 = w196.setRow w187.heap.size #[.int .i64 x189] →
 R (.returned (.func (.func 76) #[] #[.pointer (some ⟨w.heap.size, 0, none⟩), .pointer (some ⟨w0.heap.size, 0, none⟩), .pointer (some ⟨w194.heap.size, 0, none⟩), .pointer (some ⟨w187.heap.size, 0, none⟩), .pointer (some ⟨w180.heap.size, 0, none⟩), .pointer (some ⟨w1.drew.heap.size, 0, none⟩)])) w197))) ∧ (∀ w198 : World, w198 = w185.drew.alloc (.cells #[.int .i64 0] 3) →
 (Calls Tryd.prog n_chunk_Chunk_rows_1 #[.int .i64 a1_2, .int .i64 a2_2, .int .i64 (IntKind.wrap .i64 (x186 * 16))] w198 (fun e w199 => ∃ (x200 : Int) (x201 : Int), e = .returned (.tuple #[.int .i64 x200, .int .i64 x201]) ∧ w199.heap[w.heap.size]? = w198.heap[w.heap.size]? ∧ w199.heap[w0.heap.size]? = w198.heap[w0.heap.size]? ∧ w199.heap[w1.drew.heap.size]? = w198.heap[w1.drew.heap.size]? ∧ w199.heap[w180.heap.size]? = w198.heap[w180.heap.size]? ∧ w199.heap[w185.drew.heap.size]? = w198.heap[w185.drew.heap.size]? ∧ 
 LoadL w199 (padd (padd (padd (some a0) 0) 0) 1) 0 [.int .i64 x186] ∧ ∀ w202 : World, w202 = w199.alloc (.cells #[.int .i64 0] 3) →
 ∀ w203 : World, w203 = w202.setRow w185.drew.heap.size #[.int .i64 x200] →
 ∀ w204 : World, w204 = w203.setRow w199.heap.size #[.int .i64 x201] →
 R (.returned (.func (.func 76) #[] #[.pointer (some ⟨w.heap.size, 0, none⟩), .pointer (some ⟨w0.heap.size, 0, none⟩), .pointer (some ⟨w185.drew.heap.size, 0, none⟩), .pointer (some ⟨w199.heap.size, 0, none⟩), .pointer (some ⟨w180.heap.size, 0, none⟩), .pointer (some ⟨w1.drew.heap.size, 0, none⟩)])) w204)) ∧ (∀ w205 : World, w205 = w198.alloc (.cells #[.int .i64 0] 3) →
 Calls Tryd.prog n_chunk_Chunk_rows_1 #[.int .i64 a1_2, .int .i64 a2_2, .int .i64 (IntKind.wrap .i64 (x186 * 16))] w205 (fun e w206 => ∃ (x207 : Int) (x208 : Int), e = .returned (.tuple #[.int .i64 x207, .int .i64 x208]) ∧ w206.heap[w.heap.size]? = w205.heap[w.heap.size]? ∧ w206.heap[w0.heap.size]? = w205.heap[w0.heap.size]? ∧ w206.heap[w1.drew.heap.size]? = w205.heap[w1.drew.heap.size]? ∧ w206.heap[w180.heap.size]? = w205.heap[w180.heap.size]? ∧ w206.heap[w185.drew.heap.size]? = w205.heap[w185.drew.heap.size]? ∧ w206.heap[w198.heap.size]? = w205.heap[w198.heap.size]? ∧ 
 LoadL w206 (padd (padd (padd (some a0) 0) 0) 1) 0 [.int .i64 x186] ∧ ∀ w209 : World, w209 = w206.setRow w185.drew.heap.size #[.int .i64 x207] →
 ∀ w210 : World, w210 = w209.setRow w198.heap.size #[.int .i64 x208] →
 R (.returned (.func (.func 76) #[] #[.pointer (some ⟨w.heap.size, 0, none⟩), .pointer (some ⟨w0.heap.size, 0, none⟩), .pointer (some ⟨w185.drew.heap.size, 0, none⟩), .pointer (some ⟨w198.heap.size, 0, none⟩), .pointer (some ⟨w180.heap.size, 0, none⟩), .pointer (some ⟨w1.drew.heap.size, 0, none⟩)])) w210))) ∧ (∀ w211 : World, w211 = w185.drew.alloc (.cells #[.int .i64 0] 3) →
 (Calls Tryd.prog n_chunk_Chunk_rows_1 #[.int .i64 a1_2, .int .i64 a2_2, .int .i64 (IntKind.wrap .i64 (x186 * 16))] w211 (fun e w212 => ∃ (x213 : Int) (x214 : Int), e = .returned (.tuple #[.int .i64 x213, .int .i64 x214]) ∧ w212.heap[w.heap.size]? = w211.heap[w.heap.size]? ∧ w212.heap[w0.heap.size]? = w211.heap[w0.heap.size]? ∧ w212.heap[w1.drew.heap.size]? = w211.heap[w1.drew.heap.size]? ∧ w212.heap[w180.heap.size]? = w211.heap[w180.heap.size]? ∧ w212.heap[w185.drew.heap.size]? = w211.heap[w185.drew.heap.size]? ∧ 
 LoadL w212 (padd (padd (padd (some a0) 0) 0) 1) 0 [.int .i64 x186] ∧ ∀ w215 : World, w215 = w212.alloc (.cells #[.int .i64 0] 3) →
 ∀ w216 : World, w216 = w215.setRow w212.heap.size #[.int .i64 x213] →
 ∀ w217 : World, w217 = w216.setRow w185.drew.heap.size #[.int .i64 x214] →
 R (.returned (.func (.func 76) #[] #[.pointer (some ⟨w.heap.size, 0, none⟩), .pointer (some ⟨w0.heap.size, 0, none⟩), .pointer (some ⟨w212.heap.size, 0, none⟩), .pointer (some ⟨w185.drew.heap.size, 0, none⟩), .pointer (some ⟨w180.heap.size, 0, none⟩), .pointer (some ⟨w1.drew.heap.size, 0, none⟩)])) w217)) ∧ (∀ w218 : World, w218 = w211.alloc (.cells #[.int .i64 0] 3) →
 Calls Tryd.prog n_chunk_Chunk_rows_1 #[.int .i64 a1_2, .int .i64 a2_2, .int .i64 (IntKind.wrap .i64 (x186 * 16))] w218 (fun e w219 => ∃ (x220 : Int) (x221 : Int), e = .returned (.tuple #[.int .i64 x220, .int .i64 x221]) ∧ w219.heap[w.heap.size]? = w218.heap[w.heap.size]? ∧ w219.heap[w0.heap.size]? = w218.heap[w0.heap.size]? ∧ w219.heap[w1.drew.heap.size]? = w218.heap[w1.drew.heap.size]? ∧ w219.heap[w180.heap.size]? = w218.heap[w180.heap.size]? ∧ w219.heap[w185.drew.heap.size]? = w218.heap[w185.drew.heap.size]? ∧ w219.heap[w211.heap.size]? = w218.heap[w211.heap.size]? ∧ 
 LoadL w219 (padd (padd (padd (some a0) 0) 0) 1) 0 [.int .i64 x186] ∧ ∀ w222 : World, w222 = w219.setRow w211.heap.size #[.int .i64 x220] →
 ∀ w223 : World, w223 = w222.setRow w185.drew.heap.size #[.int .i64 x221] →
 R (.returned (.func (.func 76) #[] #[.pointer (some ⟨w.heap.size, 0, none⟩), .pointer (some ⟨w0.heap.size, 0, none⟩), .pointer (some ⟨w211.heap.size, 0, none⟩), .pointer (some ⟨w185.drew.heap.size, 0, none⟩), .pointer (some ⟨w180.heap.size, 0, none⟩), .pointer (some ⟨w1.drew.heap.size, 0, none⟩)])) w223))))) ∧ (∀ w224 : World, w224 = w179.alloc (.cells #[.int .i64 0] 3) →
 Calls Tryd.prog n_chunk_Chunk_rows_1 #[.int .i64 a1_0, .int .i64 a2_0, .int .i64 (IntKind.wrap .i64 (x2 * 16))] w224 (fun e w225 => ∃ (x226 : Int) (x227 : Int), e = .returned (.tuple #[.int .i64 x226, .int .i64 x227]) ∧ w225.heap[w.heap.size]? = w224.heap[w.heap.size]? ∧ w225.heap[w0.heap.size]? = w224.heap[w0.heap.size]? ∧ w225.heap[w1.drew.heap.size]? = w224.heap[w1.drew.heap.size]? ∧ w225.heap[w179.heap.size]? = w224.heap[w179.heap.size]? ∧ 
 LoadL w225 (padd (padd (padd (some a0) 0) 0) 0) 0 [.int .i64 x2] ∧ ∀ w228 : World, w228 = w225.setRow w179.heap.size #[.int .i64 x226] →
 ∀ w229 : World, w229 = w228.setRow w1.drew.heap.size #[.int .i64 x227] →
 ∃ (x230 : Int), ld w229.drew (padd (padd (padd (some a0) 0) 0) 1) = some (.int .i64 x230) ∧
 (Calls Tryd.prog n_chunk_Chunk_rows_1 #[.int .i64 a1_2, .int .i64 a2_2, .int .i64 (IntKind.wrap .i64 (x230 * 16))] w229.drew (fun e w231 => ∃ (x232 : Int) (x233 : Int), e = .returned (.tuple #[.int .i64 x232, .int .i64 x233]) ∧ w231.heap[w.heap.size]? = w229.drew.heap[w.heap.size]? ∧ w231.heap[w0.heap.size]? = w229.drew.heap[w0.heap.size]? ∧ w231.heap[w1.drew.heap.size]? = w229.drew.heap[w1.drew.heap.size]? ∧ w231.heap[w179.heap.size]? = w229.drew.heap[w179.heap.size]? ∧ 
 LoadL w231 (padd (padd (padd (some a0) 0) 0) 1) 0 [.int .i64 x230] ∧ (∀ w234 : World, w234 = w231.alloc (.cells #[.int .i64 0] 3) →
 ∀ w235 : World, w235 = w234.alloc (.cells #[.int .i64 0] 3) →
 ∀ w236 : World, w236 = w235.setRow w231.heap.size #[.int .i64 x232] →
 ∀ w237 : World, w237 = w236.setRow w234.heap.size #[.int .i64 x233] →
 R (.returned (.func (.func 76) #[] #[.pointer (some ⟨w.heap.size, 0, none⟩), .pointer (some ⟨w0.heap.size, 0, none⟩), .pointer (some ⟨w231.heap.size, 0, none⟩), .pointer (some ⟨w234.heap.size, 0, none⟩), .pointer (some ⟨w179.heap.size, 0, none⟩), .pointer (some ⟨w1.drew.heap.size, 0, none⟩)])) w237) ∧ (∀ w238 : World, w238 = w231.alloc (.cells #[.int .i64 0] 3) →
 ∀ w239 : World, w239 = w238.alloc (.cells #[.int .i64 0] 3) →
 ∀ w240 : World, w240 = w239.setRow w238.heap.size #[.int .i64 x232] →
 ∀ w241 : World, w241 = w240.setRow w231.heap.size #[.int .i64 x233] →
 R (.returned (.func (.func 76) #[] #[.pointer (some ⟨w.heap.size, 0, none⟩), .pointer (some ⟨w0.heap.size, 0, none⟩), .pointer (some ⟨w238.heap.size, 0, none⟩), .pointer (some ⟨w231.heap.size, 0, none⟩), .pointer (some ⟨w179.heap.size, 0, none⟩), .pointer (some ⟨w1.drew.heap.size, 0, none⟩)])) w241))) ∧ (∀ w242 : World, w242 = w229.drew.alloc (.cells #[.int .i64 0] 3) →
 (Calls Tryd.prog n_chunk_Chunk_rows_1 #[.int .i64 a1_2, .int .i64 a2_2, .int .i64 (IntKind.wrap .i64 (x230 * 16))] w242 (fun e w243 => ∃ (x244 : Int) (x245 : Int), e = .returned (.tuple #[.int .i64 x244, .int .i64 x245]) ∧ w243.heap[w.heap.size]? = w242.heap[w.heap.size]? ∧ w243.heap[w0.heap.size]? = w242.heap[w0.heap.size]? ∧ w243.heap[w1.drew.heap.size]? = w242.heap[w1.drew.heap.size]? ∧ w243.heap[w179.heap.size]? = w242.heap[w179.heap.size]? ∧ w243.heap[w229.drew.heap.size]? = w242.heap[w229.drew.heap.size]? ∧ 
 LoadL w243 (padd (padd (padd (some a0) 0) 0) 1) 0 [.int .i64 x230] ∧ ∀ w246 : World, w246 = w243.alloc (.cells #[.int .i64 0] 3) →
 ∀ w247 : World, w247 = w246.setRow w229.drew.heap.size #[.int .i64 x244] →
 ∀ w248 : World, w248 = w247.setRow w243.heap.size #[.int .i64 x245] →
 R (.returned (.func (.func 76) #[] #[.pointer (some ⟨w.heap.size, 0, none⟩), .pointer (some ⟨w0.heap.size, 0, none⟩), .pointer (some ⟨w229.drew.heap.size, 0, none⟩), .pointer (some ⟨w243.heap.size, 0, none⟩), .pointer (some ⟨w179.heap.size, 0, none⟩), .pointer (some ⟨w1.drew.heap.size, 0, none⟩)])) w248)) ∧ (∀ w249 : World, w249 = w242.alloc (.cells #[.int .i64 0] 3) →
 Calls Tryd.prog n_chunk_Chunk_rows_1 #[.int .i64 a1_2, .int .i64 a2_2, .int .i64 (IntKind.wrap .i64 (x230 * 16))] w249 (fun e w250 => ∃ (x251 : Int) (x252 : Int), e = .returned (.tuple #[.int .i64 x251, .int .i64 x252]) ∧ w250.heap[w.heap.size]? = w249.heap[w.heap.size]? ∧ w250.heap[w0.heap.size]? = w249.heap[w0.heap.size]? ∧ w250.heap[w1.drew.heap.size]? = w249.heap[w1.drew.heap.size]? ∧ w250.heap[w179.heap.size]? = w249.heap[w179.heap.size]? ∧ w250.heap[w229.drew.heap.size]? = w249.heap[w229.drew.heap.size]? ∧ w250.heap[w242.heap.size]? = w249.heap[w242.heap.size]? ∧ 
 LoadL w250 (padd (padd (padd (some a0) 0) 0) 1) 0 [.int .i64 x230] ∧ ∀ w253 : World, w253 = w250.setRow w229.drew.heap.size #[.int .i64 x251] →
 ∀ w254 : World, w254 = w253.setRow w242.heap.size #[.int .i64 x252] →
 R (.returned (.func (.func 76) #[] #[.pointer (some ⟨w.heap.size, 0, none⟩), .pointer (some ⟨w0.heap.size, 0, none⟩), .pointer (some ⟨w229.drew.heap.size, 0, none⟩), .pointer (some ⟨w242.heap.size, 0, none⟩), .pointer (some ⟨w179.heap.size, 0, none⟩), .pointer (some ⟨w1.drew.heap.size, 0, none⟩)])) w254))) ∧ (∀ w255 : World, w255 = w229.drew.alloc (.cells #[.int .i64 0] 3) →
 (Calls Tryd.prog n_chunk_Chunk_rows_1 #[.int .i64 a1_2, .int .i64 a2_2, .int .i64 (IntKind.wrap .i64 (x230 * 16))] w255 (fun e w256 => ∃ (x257 : Int) (x258 : Int), e = .returned (.tuple #[.int .i64 x257, .int .i64 x258]) ∧ w256.heap[w.heap.size]? = w255.heap[w.heap.size]? ∧ w256.heap[w0.heap.size]? = w255.heap[w0.heap.size]? ∧ w256.heap[w1.drew.heap.size]? = w255.heap[w1.drew.heap.size]? ∧ w256.heap[w179.heap.size]? = w255.heap[w179.heap.size]? ∧ w256.heap[w229.drew.heap.size]? = w255.heap[w229.drew.heap.size]? ∧ 
 LoadL w256 (padd (padd (padd (some a0) 0) 0) 1) 0 [.int .i64 x230] ∧ ∀ w259 : World, w259 = w256.alloc (.cells #[.int .i64 0] 3) →
 ∀ w260 : World, w260 = w259.setRow w256.heap.size #[.int .i64 x257] →
 ∀ w261 : World, w261 = w260.setRow w229.drew.heap.size #[.int .i64 x258] →
 R (.returned (.func (.func 76) #[] #[.pointer (some ⟨w.heap.size, 0, none⟩), .pointer (some ⟨w0.heap.size, 0, none⟩), .pointer (some ⟨w256.heap.size, 0, none⟩), .pointer (some ⟨w229.drew.heap.size, 0, none⟩), .pointer (some ⟨w179.heap.size, 0, none⟩), .pointer (some ⟨w1.drew.heap.size, 0, none⟩)])) w261)) ∧ (∀ w262 : World, w262 = w255.alloc (.cells #[.int .i64 0] 3) →
 Calls Tryd.prog n_chunk_Chunk_rows_1 #[.int .i64 a1_2, .int .i64 a2_2, .int .i64 (IntKind.wrap .i64 (x230 * 16))] w262 (fun e w263 => ∃ (x264 : Int) (x265 : Int), e = .returned (.tuple #[.int .i64 x264, .int .i64 x265]) ∧ w263.heap[w.heap.size]? = w262.heap[w.heap.size]? ∧ w263.heap[w0.heap.size]? = w262.heap[w0.heap.size]? ∧ w263.heap[w1.drew.heap.size]? = w262.heap[w1.drew.heap.size]? ∧ w263.heap[w179.heap.size]? = w262.heap[w179.heap.size]? ∧ w263.heap[w229.drew.heap.size]? = w262.heap[w229.drew.heap.size]? ∧ w263.heap[w255.heap.size]? = w262.heap[w255.heap.size]? ∧ 
 LoadL w263 (padd (padd (padd (some a0) 0) 0) 1) 0 [.int .i64 x230] ∧ ∀ w266 : World, w266 = w263.setRow w255.heap.size #[.int .i64 x264] →
 ∀ w267 : World, w267 = w266.setRow w229.drew.heap.size #[.int .i64 x265] →
 R (.returned (.func (.func 76) #[] #[.pointer (some ⟨w.heap.size, 0, none⟩), .pointer (some ⟨w0.heap.size, 0, none⟩), .pointer (some ⟨w255.heap.size, 0, none⟩), .pointer (some ⟨w229.drew.heap.size, 0, none⟩), .pointer (some ⟨w179.heap.size, 0, none⟩), .pointer (some ⟨w1.drew.heap.size, 0, none⟩)])) w267))))))
theorem chunk_Chunk_rows.vc {a0 a1_0 a1_1 a1_2 a2_0 a2_1 a2_2 w} {R : Ending → World → Prop} (h : chunk_Chunk_rows.pre a0 a1_0 a1_1 a1_2 a2_0 a2_1 a2_2 w R) : Calls Tryd.prog n_chunk_Chunk_rows #[.pointer (some a0), .agg #[.int .i64 a1_0, .int .i64 a1_1, .int .i64 a1_2], .agg #[.int .i64 a2_0, .int .i64 a2_1, .int .i64 a2_2]] w R :=
  calls_of_eq (an := ⟨[], [], []⟩) (args := [.pointer (some a0), .agg #[.int .i64 a1_0, .int .i64 a1_1, .int .i64 a1_2], .agg #[.int .i64 a2_0, .int .i64 a2_1, .int .i64 a2_2]]) Tryd.noNG Tryd.mixed Tryd.func54 h (by kernel_rfl)

/- breccia/cell.Cut  -/
def cell_Cut.pre (a0_0 : Int) (a0_1 : Int) (a0_2 : Int) (w : World) (R : Ending → World → Prop) : Prop :=
 ∀ w0 : World, w0 = w.alloc (.cells #[.int .i64 a0_0, .int .i64 a0_1, .int .i64 a0_2] 23) →
 ∀ w1 : World, w1 = w0.alloc (.cells #[.int .i64 0, .int .i64 0, .int .i64 0] 23) →
 Calls Tryd.prog n_cell_cut #[.int .i64 a0_0] w1.drew (fun e w2 => ∃ (x3 : Int), e = .returned (.int .i64 x3) ∧ w2.heap[w.heap.size]? = w1.drew.heap[w.heap.size]? ∧ w2.heap[w0.heap.size]? = w1.drew.heap[w0.heap.size]? ∧ 
 LoadL w2 (some ⟨w.heap.size, 2, none⟩) 0 [.int .i64 a0_2] ∧ LoadL w2 (some ⟨w.heap.size, 1, none⟩) 0 [.int .i64 a0_1] ∧ Calls Tryd.prog n_cell_cut #[.int .i64 a0_1] w2 (fun e w4 => ∃ (x5 : Int), e = .returned (.int .i64 x5) ∧ w4.heap[w.heap.size]? = w2.heap[w.heap.size]? ∧ w4.heap[w0.heap.size]? = w2.heap[w0.heap.size]? ∧ 
 LoadL w4 (some ⟨w.heap.size, 2, none⟩) 0 [.int .i64 a0_2] ∧ Calls Tryd.prog n_cell_cut #[.int .i64 a0_2] w4 (fun e w6 => ∃ (x7 : Int), e = .returned (.int .i64 x7) ∧ w6.heap[w.heap.size]? = w4.heap[w.heap.size]? ∧ w6.heap[w0.heap.size]? = w4.heap[w0.heap.size]? ∧ 
 ∀ w8 : World, w8 = w6.setRow w0.heap.size #[.int .i64 x3, .int .i64 x5, .int .i64 x7] →
 R (.returned (.agg #[.int .i64 x3, .int .i64 x5, .int .i64 x7])) w8)))
theorem cell_Cut.vc {a0_0 a0_1 a0_2 w} {R : Ending → World → Prop} (h : cell_Cut.pre a0_0 a0_1 a0_2 w R) : Calls Tryd.prog n_cell_Cut #[.agg #[.int .i64 a0_0, .int .i64 a0_1, .int .i64 a0_2]] w R :=
  calls_of_eq (an := ⟨[], [], []⟩) (args := [.agg #[.int .i64 a0_0, .int .i64 a0_1, .int .i64 a0_2]]) Tryd.noNG Tryd.mixed Tryd.func55 h (by kernel_rfl)

/- breccia/runs.Fill  -/
def runs_Fill.pre (a0 : Sl) (a1 : Int) (a2 : Int) (a3 : Int) (w : World) (R : Ending → World → Prop) : Prop :=
 Calls Tryd.prog n_runs_Len #[.slice a0.a a0.n a0.c] w (fun e w0 => ∃ (x1 : Int), e = .returned (.int .i64 x1) ∧ 
 Calls Tryd.prog n_block_May #[.int .i64 a3] w0 (fun e w2 => ∃ (b3 : Bool), e = .returned (.bool b3) ∧ 
 Br (!b3)
 (Calls Tryd.prog n_slices_Clone_Run #[.slice a0.a a0.n a0.c] w2 (fun e w4 => ∃ (s5 : Sl), e = .returned (.slice s5.a s5.n s5.c) ∧ 
 R (.returned (.slice s5.a s5.n s5.c)) w4))
 (Br (decide (((if x1 < (if 0 > a1 then 0 else a1) then x1 else (if 0 > a1 then 0 else a1)) : Int) ≥ (if x1 < (if 0 > a2 then 0 else a2) then x1 else (if 0 > a2 then 0 else a2))))
 (Calls Tryd.prog n_slices_Clone_Run #[.slice a0.a a0.n a0.c] w2 (fun e w6 => ∃ (s7 : Sl), e = .returned (.slice s7.a s7.n s7.c) ∧ 
 R (.returned (.slice s7.a s7.n s7.c)) w6))
 (Calls Tryd.prog n_runs_Cut #[.slice a0.a a0.n a0.c, .int .i64 0, .int .i64 (if x1 < (if 0 > a1 then 0 else a1) then x1 else (if 0 > a1 then 0 else a1))] w2 (fun e w8 => ∃ (s9 : Sl), e = .returned (.slice s9.a s9.n s9.c) ∧ 
 Calls Tryd.prog n_runs_Make #[.int .i64 (IntKind.wrap .i64 ((if x1 < (if 0 > a2 then 0 else a2) then x1 else (if 0 > a2 then 0 else a2)) - (if x1 < (if 0 > a1 then 0 else a1) then x1 else (if 0 > a1 then 0 else a1)))), .int .i64 a3] w8 (fun e w10 => ∃ (s11 : Sl), e = .returned (.slice s11.a s11.n s11.c) ∧ 
 Calls Tryd.prog n_runs_Cut #[.slice a0.a a0.n a0.c, .int .i64 (if x1 < (if 0 > a2 then 0 else a2) then x1 else (if 0 > a2 then 0 else a2)), .int .i64 x1] w10 (fun e w12 => ∃ (s13 : Sl), e = .returned (.slice s13.a s13.n s13.c) ∧ 
 ∀ w14 : World, w14 = w12.alloc (.cells #[.slice s9.a s9.n s9.c, .slice s11.a s11.n s11.c, .slice s13.a s13.n s13.c] 36) →
 Calls Tryd.prog n_runs_join #[.slice (some ⟨w12.heap.size, 0, none⟩) 3 3] w14 (fun e w15 => ∃ (s16 : Sl), e = .returned (.slice s16.a s16.n s16.c) ∧ 
 R (.returned (.slice s16.a s16.n s16.c)) w15))))))))
theorem runs_Fill.vc {a0 a1 a2 a3 w} {R : Ending → World → Prop} (h : runs_Fill.pre a0 a1 a2 a3 w R) : Calls Tryd.prog n_runs_Fill #[.slice a0.a a0.n a0.c, .int .i64 a1, .int .i64 a2, .int .i64 a3] w R :=
  calls_of_eq (an := ⟨[], [], []⟩) (args := [.slice a0.a a0.n a0.c, .int .i64 a1, .int .i64 a2, .int .i64 a3]) Tryd.noNG Tryd.mixed Tryd.func56 h (by kernel_rfl)

/- breccia/code.Write  -/
def code_Write.pre (a0 : Sl) (w : World) (R : Ending → World → Prop) : Prop :=
 ∃ I0 : Nat → Int → Int → World → Prop,
 (∃ n1, I0 n1 (0) (1048576) w) ∧
 ∀ (n1 : Nat) (us2 : Nat → Value) (x3 : Int) (x4 : Int) (w5 : World), I0 n1 x3 x4 w5 →
 Br (decide ((x3 : Int) < ((a0.n : Nat) : Int)))
 (InB a0.a x3 a0.n ∧ ∃ (x7 : Int) (x8 : Int), LoadL w5 (padd a0.a ((x3 : Int).toNat * 2)) 0 [.int .i64 x7, .int .i64 x8] ∧
 ∀ w9 : World, w9 = w5.alloc (.cells #[.int .i64 0, .int .i64 0] 83) →
 ∀ w10 : World, w10 = w9.setRow w5.heap.size #[.int .i64 x7, .int .i64 x8] →
 Br (decide ((x7 : Int) < 1))
 (R (.returned (.tuple #[.slice none 0 0, .int .i64 1])) w10)
 (Br (decide (((IntKind.wrap .i64 (x4 - x7)) : Int) < 0))
 (R (.returned (.tuple #[.slice none 0 0, .int .i64 1])) w10)
 (∃ n6, n6 < n1 ∧ I0 n6 ((IntKind.wrap .i64 (x3 + 1))) ((IntKind.wrap .i64 (x4 - x7))) w10)))
 (Calls Tryd.prog n_runs_Len #[.slice a0.a a0.n a0.c] w5 (fun e w11 => ∃ (x12 : Int), e = .returned (.int .i64 x12) ∧ 
 Calls Tryd.prog n_runs_May #[.slice a0.a a0.n a0.c, .int .i64 x12] w11 (fun e w13 => ∃ (b14 : Bool), e = .returned (.bool b14) ∧ 
 Br (!b14)
 (R (.returned (.tuple #[.slice none 0 0, .int .i64 1])) w13)
 (∃ I15 : Nat → Int → Sl → World → Prop,
 (∃ n16, I15 n16 (0) ⟨none, 0, 0⟩ w13) ∧
 ∀ (n16 : Nat) (us17 : Nat → Value) (x18 : Int) (s19 : Sl) (w20 : World), I15 n16 x18 s19 w20 →
 Br (decide ((x18 : Int) < ((a0.n : Nat) : Int)))
 (InB a0.a x18 a0.n ∧ ∃ (x22 : Int) (x23 : Int), LoadL w20 (padd a0.a ((x18 : Int).toNat * 2)) 0 [.int .i64 x22, .int .i64 x23] ∧
 ∀ w24 : World, w24 = w20.alloc (.cells #[.int .i64 0, .int .i64 0] 83) →
 ∀ w25 : World, w25 = w24.setRow w20.heap.size #[.int .i64 x22, .int .i64 x23] →
 ∀ w26 : World, w26 = w25.drew.alloc (.cells #[.int .u8 (IntKind.wrap .u8 x23)] 5) →
 AppPre 1 1 w26 ⟨s19.a, s19.n, s19.c⟩ 1 [.int .u8 (IntKind.wrap .u8 x23)] ∧ ∀ (s27 : Sl) (w28 : World), AppRes 5 1 w26 ⟨s19.a, s19.n, s19.c⟩ 1 [.int .u8 (IntKind.wrap .u8 x23)] s27 w28 → w28.heap[w20.heap.size]? = w26.heap[w20.heap.size]? ∧ w28.heap[w25.drew.heap.size]? = w26.heap[w25.drew.heap.size]? ∧ 
 LoadL w28 (some ⟨w20.heap.size, 0, none⟩) 0 [.int .i64 x22] ∧ LoadL w28 (some ⟨w20.heap.size, 1, none⟩) 0 [.int .i64 x23] ∧ Calls Tryd.prog n_code_Number #[.int .i64 x22] w28 (fun e w29 => ∃ (s30 : Sl), e = .returned (.slice s30.a s30.n s30.c) ∧ w29.heap[w20.heap.size]? = w28.heap[w20.heap.size]? ∧ w29.heap[w25.drew.heap.size]? = w28.heap[w25.drew.heap.size]? ∧ 
 LoadL w29 (some ⟨w20.heap.size, 1, none⟩) 0 [.int .i64 x23] ∧ ∃ l31 : List Value, Rd w29 s30.a l31 ∧ AppPre 1 1 w29 ⟨s27.a, s27.n, s27.c⟩ s30.n l31 ∧ ∀ (s32 : Sl) (w33 : World), AppRes 5 1 w29 ⟨s27.a, s27.n, s27.c⟩ s30.n l31 s32 w33 → w33.heap[w20.heap.size]? = w29.heap[w20.heap.size]? ∧ w33.heap[w25.drew.heap.size]? = w29.heap[w25.drew.heap.size]? ∧ 
 LoadL w33 (some ⟨w20.heap.size, 1, none⟩) 0 [.int .i64 x23] ∧ ∃ n21, n21 < n16 ∧ I15 n21 ((IntKind.wrap .i64 (x18 + 1))) ⟨s32.a, s32.n, s32.c⟩ w33))
 (R (.returned (.tuple #[.slice s19.a s19.n s19.c, .int .i64 0])) w20)))))
theorem code_Write.vc {a0 w} {R : Ending → World → Prop} (h : code_Write.pre a0 w R) : Calls Tryd.prog n_code_Write #[.slice a0.a a0.n a0.c] w R :=
  calls_of_eq (an := ⟨[(13, ⟨[(35, .int .i64), (7, .slice)], [], []⟩), (3, ⟨[(12, .int .i64), (4, .int .i64)], [], []⟩)], [], []⟩) (args := [.slice a0.a a0.n a0.c]) Tryd.noNG Tryd.mixed Tryd.func57 h (by kernel_rfl)

/- breccia/brecciaref06.Number  -/
def ref06_Number.pre (a0 : Int) (w : World) (R : Ending → World → Prop) : Prop :=
 Br (decide ((a0 : Int) < 0))
 (R (.returned (.slice none 0 0)) w)
 (Br (decide ((a0 : Int) > 1048576))
 (R (.returned (.slice none 0 0)) w)
 (∃ I0 : Nat → Int → Int → Sl → World → Prop,
 (∃ n1, I0 n1 (0) (a0) ⟨none, 0, 0⟩ w) ∧
 ∀ (n1 : Nat) (us2 : Nat → Value) (x3 : Int) (x4 : Int) (s5 : Sl) (w6 : World), I0 n1 x3 x4 s5 w6 →
 Br (decide ((x3 : Int) < 3))
 (Br (decide ((x4 : Int) < 128))
 (∀ w8 : World, w8 = w6.alloc (.cells #[.int .u8 (IntKind.wrap .u8 x4)] 5) →
 AppPre 1 1 w8 ⟨s5.a, s5.n, s5.c⟩ 1 [.int .u8 (IntKind.wrap .u8 x4)] ∧ ∀ (s9 : Sl) (w10 : World), AppRes 5 1 w8 ⟨s5.a, s5.n, s5.c⟩ 1 [.int .u8 (IntKind.wrap .u8 x4)] s9 w10 → w10.heap[w6.heap.size]? = w8.heap[w6.heap.size]? ∧ 
 R (.returned (.slice s9.a s9.n s9.c)) w10)
 (∀ w11 : World, w11 = w6.alloc (.cells #[.int .u8 (IntKind.wrap .u8 (IntKind.wrap .i64 (128 + (Int.tmod x4 128))))] 5) →
 AppPre 1 1 w11 ⟨s5.a, s5.n, s5.c⟩ 1 [.int .u8 (IntKind.wrap .u8 (IntKind.wrap .i64 (128 + (Int.tmod x4 128))))] ∧ ∀ (s12 : Sl) (w13 : World), AppRes 5 1 w11 ⟨s5.a, s5.n, s5.c⟩ 1 [.int .u8 (IntKind.wrap .u8 (IntKind.wrap .i64 (128 + (Int.tmod x4 128))))] s12 w13 → w13.heap[w6.heap.size]? = w11.heap[w6.heap.size]? ∧ 
 ∃ n7, n7 < n1 ∧ I0 n7 ((IntKind.wrap .i64 (x3 + 1))) ((IntKind.wrap .i64 (Int.tdiv x4 128))) ⟨s12.a, s12.n, s12.c⟩ w13))
 (R (.returned (.slice s5.a s5.n s5.c)) w6)))
theorem ref06_Number.vc {a0 w} {R : Ending → World → Prop} (h : ref06_Number.pre a0 w R) : Calls Tryd.prog n_ref06_Number #[.int .i64 a0] w R :=
  calls_of_eq (an := ⟨[(5, ⟨[(4, .int .i64), (0, .int .i64), (3, .slice)], [], []⟩)], [], []⟩) (args := [.int .i64 a0]) Tryd.noNG Tryd.mixed Tryd.func58 h (by kernel_rfl)

/- breccia/code.Read  -/
def code_Read.pre (a0 : Sl) (a1 : Int) (w : World) (R : Ending → World → Prop) : Prop :=
 ∃ I0 : Nat → Sl → Int → Int → Sl → World → Prop,
 (∃ n1, I0 n1 ⟨a0.a, a0.n, a0.c⟩ ((-1)) (a1) ⟨none, 0, 0⟩ w) ∧
 ∀ (n1 : Nat) (us2 : Nat → Value) (s3 : Sl) (x4 : Int) (x5 : Int) (s6 : Sl) (w7 : World), I0 n1 s3 x4 x5 s6 w7 →
 Br (decide ((((s3.n : Nat) : Int) : Int) > 0))
 (InB s3.a 0 s3.n ∧ ∃ (x9 : Int), ld w7 (padd s3.a ((0 : Int).toNat * 1)) = some (.int .u8 x9) ∧
 ∀ w10 : World, w10 = w7.alloc (.cells #[.int .i64 0, .int .i64 0] 83) →
 ∀ w11 : World, w11 = w10.setRow w7.heap.size #[.int .i64 0, .int .i64 (IntKind.wrap .i64 x9)] →
 Calls Tryd.prog n_block_May #[.int .i64 (IntKind.wrap .i64 x9)] w11 (fun e w12 => ∃ (b13 : Bool), e = .returned (.bool b13) ∧ w12.heap[w7.heap.size]? = w11.heap[w7.heap.size]? ∧ 
 Br (!b13)
 (R (.returned (.tuple #[.slice none 0 0, .int .i64 2])) w12)
 (Br (((IntKind.wrap .i64 x9) : Int) == x4)
 (R (.returned (.tuple #[.slice none 0 0, .int .i64 2])) w12)
 ((0 : Int) ≤ ((s3.n : Nat) : Int) ∧ ((s3.n : Nat) : Int) ≤ ((s3.c : Nat) : Int) ∧ (0 : Int) ≤ ((s3.n : Nat) : Int) ∧ (((s3.n : Nat) : Int) : Int) ≤ ((s3.n : Nat) : Int) ∧ (0 : Int) ≤ 1 ∧ (1 : Int) ≤ ((s3.n : Nat) : Int) ∧ Calls Tryd.prog n_code_Digits #[.slice (slBase s3.a ((1 : Int).toNat) ((((s3.n : Nat) : Int) : Int).toNat) 1) ((((s3.n : Nat) : Int) : Int).toNat - (1 : Int).toNat) ((((s3.n : Nat) : Int) : Int).toNat - (1 : Int).toNat)] w12 (fun e w14 => ∃ (x15 : Int) (x16 : Int) (x17 : Int), e = .returned (.tuple #[.int .i64 x15, .int .i64 x16, .int .i64 x17]) ∧ w14.heap[w7.heap.size]? = w12.heap[w7.heap.size]? ∧ 
 Br ((x17 : Int) != 0)
 (R (.returned (.tuple #[.slice none 0 0, .int .i64 x17])) w14)
 (Br ((x15 : Int) == 0)
 (R (.returned (.tuple #[.slice none 0 0, .int .i64 2])) w14)
 (Br (decide ((x15 : Int) > x5))
 (R (.returned (.tuple #[.slice none 0 0, .int .i64 2])) w14)
 (∀ w18 : World, w18 = w14.setRow w7.heap.size #[.int .i64 x15, .int .i64 (IntKind.wrap .i64 x9)] →
 (0 : Int) ≤ (IntKind.wrap .i64 (1 + x16)) ∧ (IntKind.wrap .i64 (1 + x16)) ≤ ((s3.n : Nat) : Int) ∧ ∀ w19 : World, w19 = w18.drew.alloc (.cells #[.int .i64 x15, .int .i64 (IntKind.wrap .i64 x9)] 83) →
 AppPre 16 2 w19 ⟨s6.a, s6.n, s6.c⟩ 1 [.int .i64 x15, .int .i64 (IntKind.wrap .i64 x9)] ∧ ∀ (s20 : Sl) (w21 : World), AppRes 83 2 w19 ⟨s6.a, s6.n, s6.c⟩ 1 [.int .i64 x15, .int .i64 (IntKind.wrap .i64 x9)] s20 w21 → w21.heap[w7.heap.size]? = w19.heap[w7.heap.size]? ∧ w21.heap[w18.drew.heap.size]? = w19.heap[w18.drew.heap.size]? ∧ 
 Br (((IntKind.wrap .i64 (x5 - x15)) : Int) == 0)
 (Br (decide (((IntKind.wrap .i64 (x5 - x15)) : Int) > 0))
 (R (.returned (.tuple #[.slice none 0 0, .int .i64 3])) w21)
 (Br (decide (((((s3.n - ((IntKind.wrap .i64 (1 + x16)) : Int).toNat) : Nat) : Int) : Int) > 0))
 (R (.returned (.tuple #[.slice none 0 0, .int .i64 2])) w21)
 (R (.returned (.tuple #[.slice s20.a s20.n s20.c, .int .i64 0])) w21)))
 (∃ n8, n8 < n1 ∧ I0 n8 ⟨(slBase s3.a (((IntKind.wrap .i64 (1 + x16)) : Int).toNat) (s3.c) 1), (s3.n - ((IntKind.wrap .i64 (1 + x16)) : Int).toNat), (s3.c - ((IntKind.wrap .i64 (1 + x16)) : Int).toNat)⟩ ((IntKind.wrap .i64 x9)) ((IntKind.wrap .i64 (x5 - x15))) ⟨s20.a, s20.n, s20.c⟩ w21)))))))))
 (Br (decide ((x5 : Int) > 0))
 (R (.returned (.tuple #[.slice none 0 0, .int .i64 3])) w7)
 (Br (decide ((((s3.n : Nat) : Int) : Int) > 0))
 (R (.returned (.tuple #[.slice none 0 0, .int .i64 2])) w7)
 (R (.returned (.tuple #[.slice s6.a s6.n s6.c, .int .i64 0])) w7)))
theorem code_Read.vc {a0 a1 w} {R : Ending → World → Prop} (h : code_Read.pre a0 a1 w R) : Calls Tryd.prog n_code_Read #[.slice a0.a a0.n a0.c, .int .i64 a1] w R :=
  calls_of_eq (an := ⟨[(3, ⟨[(0, .slice), (7, .int .i64), (1, .int .i64), (6, .slice)], [], []⟩)], [], []⟩) (args := [.slice a0.a a0.n a0.c, .int .i64 a1]) Tryd.noNG Tryd.mixed Tryd.func59 h (by kernel_rfl)

/- breccia/brecciaref06.Read  -/
def ref06_Read.pre (a0 : Sl) (a1 : Int) (w : World) (R : Ending → World → Prop) : Prop :=
 ∃ I0 : Nat → Int → Int → Sl → World → Prop,
 (∃ n1, I0 n1 (a1) (0) ⟨none, 0, 0⟩ w) ∧
 ∀ (n1 : Nat) (us2 : Nat → Value) (x3 : Int) (x4 : Int) (s5 : Sl) (w6 : World), I0 n1 x3 x4 s5 w6 →
 Br (decide ((x3 : Int) > 0))
 (Br (decide ((x4 : Int) ≥ ((a0.n : Nat) : Int)))
 (R (.returned (.tuple #[.slice none 0 0, .int .i64 3])) w6)
 (InB a0.a x4 a0.n ∧ ∃ (x8 : Int), ld w6 (padd a0.a ((x4 : Int).toNat * 1)) = some (.int .u8 x8) ∧
 Calls Tryd.prog n_ref04_May #[.int .i64 (IntKind.wrap .i64 x8)] w6 (fun e w9 => ∃ (b10 : Bool), e = .returned (.bool b10) ∧ 
 Br (!b10)
 (R (.returned (.tuple #[.slice none 0 0, .int .i64 2])) w9)
 (Br (decide ((((s5.n : Nat) : Int) : Int) > 0))
 (InB s5.a (if 0 > (IntKind.wrap .i64 (((s5.n : Nat) : Int) - 1)) then 0 else (IntKind.wrap .i64 (((s5.n : Nat) : Int) - 1))) s5.n ∧ AndL (nnC (padd s5.a (((if 0 > (IntKind.wrap .i64 (((s5.n : Nat) : Int) - 1)) then 0 else (IntKind.wrap .i64 (((s5.n : Nat) : Int) - 1))) : Int).toNat * 2))) (∃ (x11 : Int), ld w9 (padd (padd s5.a (((if 0 > (IntKind.wrap .i64 (((s5.n : Nat) : Int) - 1)) then 0 else (IntKind.wrap .i64 (((s5.n : Nat) : Int) - 1))) : Int).toNat * 2)) 1) = some (.int .i64 x11) ∧
 Br ((x11 : Int) == (IntKind.wrap .i64 x8))
 (R (.returned (.tuple #[.slice none 0 0, .int .i64 2])) w9)
 ((0 : Int) ≤ (IntKind.wrap .i64 (x4 + 1)) ∧ (IntKind.wrap .i64 (x4 + 1)) ≤ ((a0.n : Nat) : Int) ∧ Calls Tryd.prog n_ref06_Digits #[.slice (slBase a0.a (((IntKind.wrap .i64 (x4 + 1)) : Int).toNat) (a0.c) 1) (a0.n - ((IntKind.wrap .i64 (x4 + 1)) : Int).toNat) (a0.c - ((IntKind.wrap .i64 (x4 + 1)) : Int).toNat)] w9 (fun e w12 => ∃ (x13 : Int) (x14 : Int) (x15 : Int), e = .returned (.tuple #[.int .i64 x13, .int .i64 x14, .int .i64 x15]) ∧ 
 Br ((x15 : Int) != 0)
 (R (.returned (.tuple #[.slice none 0 0, .int .i64 x15])) w12)
 (Br ((x13 : Int) == 0)
 (R (.returned (.tuple #[.slice none 0 0, .int .i64 2])) w12)
 (Br (decide ((x13 : Int) > x3))
 (R (.returned (.tuple #[.slice none 0 0, .int .i64 2])) w12)
 (∀ w16 : World, w16 = w12.alloc (.cells #[.int .i64 x13, .int .i64 (IntKind.wrap .i64 x8)] 83) →
 AppPre 16 2 w16 ⟨s5.a, s5.n, s5.c⟩ 1 [.int .i64 x13, .int .i64 (IntKind.wrap .i64 x8)] ∧ ∀ (s17 : Sl) (w18 : World), AppRes 83 2 w16 ⟨s5.a, s5.n, s5.c⟩ 1 [.int .i64 x13, .int .i64 (IntKind.wrap .i64 x8)] s17 w18 → w18.heap[w12.heap.size]? = w16.heap[w12.heap.size]? ∧ 
 ∃ n7, n7 < n1 ∧ I0 n7 ((IntKind.wrap .i64 (x3 - x13))) ((IntKind.wrap .i64 ((IntKind.wrap .i64 (x4 + 1)) + x14))) ⟨s17.a, s17.n, s17.c⟩ w18)))))))
 ((0 : Int) ≤ (IntKind.wrap .i64 (x4 + 1)) ∧ (IntKind.wrap .i64 (x4 + 1)) ≤ ((a0.n : Nat) : Int) ∧ Calls Tryd.prog n_ref06_Digits #[.slice (slBase a0.a (((IntKind.wrap .i64 (x4 + 1)) : Int).toNat) (a0.c) 1) (a0.n - ((IntKind.wrap .i64 (x4 + 1)) : Int).toNat) (a0.c - ((IntKind.wrap .i64 (x4 + 1)) : Int).toNat)] w9 (fun e w19 => ∃ (x20 : Int) (x21 : Int) (x22 : Int), e = .returned (.tuple #[.int .i64 x20, .int .i64 x21, .int .i64 x22]) ∧ 
 Br ((x22 : Int) != 0)
 (R (.returned (.tuple #[.slice none 0 0, .int .i64 x22])) w19)
 (Br ((x20 : Int) == 0)
 (R (.returned (.tuple #[.slice none 0 0, .int .i64 2])) w19)
 (Br (decide ((x20 : Int) > x3))
 (R (.returned (.tuple #[.slice none 0 0, .int .i64 2])) w19)
 (∀ w23 : World, w23 = w19.alloc (.cells #[.int .i64 x20, .int .i64 (IntKind.wrap .i64 x8)] 83) →
 AppPre 16 2 w23 ⟨s5.a, s5.n, s5.c⟩ 1 [.int .i64 x20, .int .i64 (IntKind.wrap .i64 x8)] ∧ ∀ (s24 : Sl) (w25 : World), AppRes 83 2 w23 ⟨s5.a, s5.n, s5.c⟩ 1 [.int .i64 x20, .int .i64 (IntKind.wrap .i64 x8)] s24 w25 → w25.heap[w19.heap.size]? = w23.heap[w19.heap.size]? ∧ 
 ∃ n7, n7 < n1 ∧ I0 n7 ((IntKind.wrap .i64 (x3 - x20))) ((IntKind.wrap .i64 ((IntKind.wrap .i64 (x4 + 1)) + x21))) ⟨s24.a, s24.n, s24.c⟩ w25)))))))))
 (Br (decide ((x4 : Int) < ((a0.n : Nat) : Int)))
 (R (.returned (.tuple #[.slice none 0 0, .int .i64 2])) w6)
 (R (.returned (.tuple #[.slice s5.a s5.n s5.c, .int .i64 0])) w6))
theorem ref06_Read.vc {a0 a1 w} {R : Ending → World → Prop} (h : ref06_Read.pre a0 a1 w R) : Calls Tryd.prog n_ref06_Read #[.slice a0.a a0.n a0.c, .int .i64 a1] w R :=
  calls_of_eq (an := ⟨[(3, ⟨[(1, .int .i64), (7, .int .i64), (6, .slice)], [], []⟩)], [], []⟩) (args := [.slice a0.a a0.n a0.c, .int .i64 a1]) Tryd.noNG Tryd.mixed Tryd.func60 h (by kernel_rfl)

/- breccia/gen.Cells  -/
def gen_Cells.pre (a0 : Int) (a1_0 : Int) (a1_1 : Int) (w : World) (R : Ending → World → Prop) : Prop :=
 ∀ w0 : World, w0 = w.alloc (.cells #[.int .i64 a0] 3) →
 ∀ w1 : World, w1 = w0.alloc (.cells #[.int .i64 a1_0, .int .i64 a1_1] 27) →
 R (.returned (.func (.func 84) #[] #[.pointer (some ⟨w0.heap.size, 0, none⟩), .pointer (some ⟨w.heap.size, 0, none⟩)])) w1
theorem gen_Cells.vc {a0 a1_0 a1_1 w} {R : Ending → World → Prop} (h : gen_Cells.pre a0 a1_0 a1_1 w R) : Calls Tryd.prog n_gen_Cells #[.int .i64 a0, .agg #[.int .i64 a1_0, .int .i64 a1_1]] w R :=
  calls_of_eq (an := ⟨[], [], []⟩) (args := [.int .i64 a0, .agg #[.int .i64 a1_0, .int .i64 a1_1]]) Tryd.noNG Tryd.mixed Tryd.func61 h (by kernel_rfl)

/- breccia/runs.Of  -/
def runs_Of.pre (a0 : Sl) (w : World) (R : Ending → World → Prop) : Prop :=
 ∃ I0 : Nat → Int → Sl → World → Prop,
 (∃ n1, I0 n1 (0) ⟨none, 0, 0⟩ w) ∧
 ∀ (n1 : Nat) (us2 : Nat → Value) (x3 : Int) (s4 : Sl) (w5 : World), I0 n1 x3 s4 w5 →
 Br (decide ((x3 : Int) < ((a0.n : Nat) : Int)))
 (InB a0.a x3 a0.n ∧ ∃ (x7 : Int), ld w5 (padd a0.a ((x3 : Int).toNat * 1)) = some (.int .i64 x7) ∧
 Calls Tryd.prog n_runs_push #[.slice s4.a s4.n s4.c, .agg #[.int .i64 1, .int .i64 x7]] w5 (fun e w8 => ∃ (s9 : Sl), e = .returned (.slice s9.a s9.n s9.c) ∧ 
 ∃ n6, n6 < n1 ∧ I0 n6 ((IntKind.wrap .i64 (x3 + 1))) ⟨s9.a, s9.n, s9.c⟩ w8))
 (R (.returned (.slice s4.a s4.n s4.c)) w5)
theorem runs_Of.vc {a0 w} {R : Ending → World → Prop} (h : runs_Of.pre a0 w R) : Calls Tryd.prog n_runs_Of #[.slice a0.a a0.n a0.c] w R :=
  calls_of_eq (an := ⟨[(3, ⟨[(8, .int .i64), (3, .slice)], [], []⟩)], [], []⟩) (args := [.slice a0.a a0.n a0.c]) Tryd.noNG Tryd.mixed Tryd.func62 h (by kernel_rfl)

/- slices.Clip[[]int,int]  -/
def slices_Clip_int.pre (a0 : Sl) (w : World) (R : Ending → World → Prop) : Prop :=
 (0 : Int) ≤ ((a0.n : Nat) : Int) ∧ ((a0.n : Nat) : Int) ≤ ((a0.c : Nat) : Int) ∧ (0 : Int) ≤ ((a0.n : Nat) : Int) ∧ (((a0.n : Nat) : Int) : Int) ≤ ((a0.n : Nat) : Int) ∧ R (.returned (.slice (slBase a0.a (0) ((((a0.n : Nat) : Int) : Int).toNat) 1) ((((a0.n : Nat) : Int) : Int).toNat - 0) ((((a0.n : Nat) : Int) : Int).toNat - 0))) w
theorem slices_Clip_int.vc {a0 w} {R : Ending → World → Prop} (h : slices_Clip_int.pre a0 w R) : Calls Tryd.prog n_slices_Clip_int #[.slice a0.a a0.n a0.c] w R :=
  calls_of_eq (an := ⟨[], [], []⟩) (args := [.slice a0.a a0.n a0.c]) Tryd.noNG Tryd.mixed Tryd.func63 h (by kernel_rfl)

/- breccia/cell.Index  -/
def cell_Index.pre (a0_0 : Int) (a0_1 : Int) (a0_2 : Int) (w : World) (R : Ending → World → Prop) : Prop :=
 ∀ w0 : World, w0 = w.alloc (.cells #[.int .i64 a0_0, .int .i64 a0_1, .int .i64 a0_2] 23) →
 Br (decide ((a0_1 : Int) < 0))
 (R (.returned (.tuple #[.int .i64 0, .bool false])) w0)
 (Br (decide ((a0_1 : Int) ≥ 32))
 (R (.returned (.tuple #[.int .i64 0, .bool false])) w0)
 (Calls Tryd.prog n_cell_Mod #[.int .i64 a0_2, .int .i64 16] w0.drew (fun e w1 => ∃ (x2 : Int), e = .returned (.int .i64 x2) ∧ w1.heap[w.heap.size]? = w0.drew.heap[w.heap.size]? ∧ 
 LoadL w1 (some ⟨w.heap.size, 0, none⟩) 0 [.int .i64 a0_0] ∧ LoadL w1 (some ⟨w.heap.size, 1, none⟩) 0 [.int .i64 a0_1] ∧ Calls Tryd.prog n_cell_Mod #[.int .i64 a0_0, .int .i64 16] w1 (fun e w3 => ∃ (x4 : Int), e = .returned (.int .i64 x4) ∧ w3.heap[w.heap.size]? = w1.heap[w.heap.size]? ∧ 
 LoadL w3 (some ⟨w.heap.size, 1, none⟩) 0 [.int .i64 a0_1] ∧ R (.returned (.tuple #[.int .i64 (IntKind.wrap .i64 ((IntKind.wrap .i64 ((IntKind.wrap .i64 ((IntKind.wrap .i64 (a0_1 * 16)) + x2)) * 16)) + x4)), .bool true])) w3))))
theorem cell_Index.vc {a0_0 a0_1 a0_2 w} {R : Ending → World → Prop} (h : cell_Index.pre a0_0 a0_1 a0_2 w R) : Calls Tryd.prog n_cell_Index #[.agg #[.int .i64 a0_0, .int .i64 a0_1, .int .i64 a0_2]] w R :=
  calls_of_eq (an := ⟨[], [], []⟩) (args := [.agg #[.int .i64 a0_0, .int .i64 a0_1, .int .i64 a0_2]]) Tryd.noNG Tryd.mixed Tryd.func64 h (by kernel_rfl)

/- breccia/cell.Chunk  -/
def cell_Chunk.pre (a0_0 : Int) (a0_1 : Int) (a0_2 : Int) (w : World) (R : Ending → World → Prop) : Prop :=
 ∀ w0 : World, w0 = w.alloc (.cells #[.int .i64 a0_0, .int .i64 a0_1, .int .i64 a0_2] 23) →
 ∀ w1 : World, w1 = w0.alloc (.cells #[.int .i64 0, .int .i64 0] 27) →
 Calls Tryd.prog n_cell_Div #[.int .i64 a0_0, .int .i64 16] w1.drew (fun e w2 => ∃ (x3 : Int), e = .returned (.int .i64 x3) ∧ w2.heap[w.heap.size]? = w1.drew.heap[w.heap.size]? ∧ w2.heap[w0.heap.size]? = w1.drew.heap[w0.heap.size]? ∧ 
 LoadL w2 (some ⟨w.heap.size, 2, none⟩) 0 [.int .i64 a0_2] ∧ Calls Tryd.prog n_cell_Div #[.int .i64 a0_2, .int .i64 16] w2 (fun e w4 => ∃ (x5 : Int), e = .returned (.int .i64 x5) ∧ w4.heap[w.heap.size]? = w2.heap[w.heap.size]? ∧ w4.heap[w0.heap.size]? = w2.heap[w0.heap.size]? ∧ 
 ∀ w6 : World, w6 = w4.setRow w0.heap.size #[.int .i64 x3, .int .i64 x5] →
 R (.returned (.agg #[.int .i64 x3, .int .i64 x5])) w6))
theorem cell_Chunk.vc {a0_0 a0_1 a0_2 w} {R : Ending → World → Prop} (h : cell_Chunk.pre a0_0 a0_1 a0_2 w R) : Calls Tryd.prog n_cell_Chunk #[.agg #[.int .i64 a0_0, .int .i64 a0_1, .int .i64 a0_2]] w R :=
  calls_of_eq (an := ⟨[], [], []⟩) (args := [.agg #[.int .i64 a0_0, .int .i64 a0_1, .int .i64 a0_2]]) Tryd.noNG Tryd.mixed Tryd.func65 h (by kernel_rfl)

/- breccia/block.Name  -/
def block_Name.pre (a0 : Int) (w : World) (R : Ending → World → Prop) : Prop :=
 Br (decide ((a0 : Int) < 0))
 (R (.returned (.string (ByteArray.mk #[]))) w)
 (Br (decide ((a0 : Int) ≥ 16))
 (R (.returned (.string (ByteArray.mk #[]))) w)
 (Calls Tryd.prog n_block_names #[] w (fun e w0 => ∃ (t1 : ByteArray) (t2 : ByteArray) (t3 : ByteArray) (t4 : ByteArray) (t5 : ByteArray) (t6 : ByteArray) (t7 : ByteArray) (t8 : ByteArray) (t9 : ByteArray) (t10 : ByteArray) (t11 : ByteArray) (t12 : ByteArray) (t13 : ByteArray) (t14 : ByteArray) (t15 : ByteArray) (t16 : ByteArray), e = .returned (.agg #[.string t1, .string t2, .string t3, .string t4, .string t5, .string t6, .string t7, .string t8, .string t9, .string t10, .string t11, .string t12, .string t13, .string t14, .string t15, .string t16]) ∧ 
 ((0 : Int) ≤ a0 ∧ (a0 : Int) < ((16 : Nat) : Int)) ∧ ∃ (t17 : ByteArray), ([.string t1, .string t2, .string t3, .string t4, .string t5, .string t6, .string t7, .string t8, .string t9, .string t10, .string t11, .string t12, .string t13, .string t14, .string t15, .string t16] : List Value)[(a0 : Int).toNat * 1]? = some (.string t17) ∧
 R (.returned (.string t17)) w0)))
theorem block_Name.vc {a0 w} {R : Ending → World → Prop} (h : block_Name.pre a0 w R) : Calls Tryd.prog n_block_Name #[.int .i64 a0] w R :=
  calls_of_eq (an := ⟨[], [], []⟩) (args := [.int .i64 a0]) Tryd.noNG Tryd.mixed Tryd.func66 h (by kernel_rfl)

/- breccia/runs.Len  -/
def runs_Len.pre (a0 : Sl) (w : World) (R : Ending → World → Prop) : Prop :=
 ∃ I0 : Nat → Int → Int → World → Prop,
 (∃ n1, I0 n1 (0) (0) w) ∧
 ∀ (n1 : Nat) (us2 : Nat → Value) (x3 : Int) (x4 : Int) (w5 : World), I0 n1 x3 x4 w5 →
 Br (decide ((x3 : Int) < ((a0.n : Nat) : Int)))
 (InB a0.a x3 a0.n ∧ ∃ (x7 : Int) (x8 : Int), LoadL w5 (padd a0.a ((x3 : Int).toNat * 2)) 0 [.int .i64 x7, .int .i64 x8] ∧
 ∀ w9 : World, w9 = w5.alloc (.cells #[.int .i64 0, .int .i64 0] 83) →
 ∀ w10 : World, w10 = w9.setRow w5.heap.size #[.int .i64 x7, .int .i64 x8] →
 ∃ n6, n6 < n1 ∧ I0 n6 ((IntKind.wrap .i64 (x3 + 1))) ((IntKind.wrap .i64 (x4 + x7))) w10)
 (R (.returned (.int .i64 x4)) w5)
theorem runs_Len.vc {a0 w} {R : Ending → World → Prop} (h : runs_Len.pre a0 w R) : Calls Tryd.prog n_runs_Len #[.slice a0.a a0.n a0.c] w R :=
  calls_of_eq (an := ⟨[(3, ⟨[(8, .int .i64), (3, .int .i64)], [], []⟩)], [], []⟩) (args := [.slice a0.a a0.n a0.c]) Tryd.noNG Tryd.mixed Tryd.func67 h (by kernel_rfl)

/- breccia/brecciaref03.From  -/
def ref03_From.pre (a0_0 : Int) (a0_1 : Int) (a1 : Int) (w : World) (R : Ending → World → Prop) : Prop :=
 ∀ w0 : World, w0 = w.alloc (.cells #[.int .i64 a0_0, .int .i64 a0_1] 27) →
 ∀ w1 : World, w1 = w0.alloc (.cells #[.int .i64 0, .int .i64 0, .int .i64 0] 23) →
 Br (decide ((a1 : Int) < 0))
 (∀ w2 : World, w2 = w1.setRow w0.heap.size #[.int .i64 0, .int .i64 0, .int .i64 0] →
 R (.returned (.tuple #[.agg #[.int .i64 0, .int .i64 0, .int .i64 0], .bool false])) w2)
 (Br (decide ((a1 : Int) > 8191))
 (∀ w3 : World, w3 = w1.setRow w0.heap.size #[.int .i64 0, .int .i64 0, .int .i64 0] →
 R (.returned (.tuple #[.agg #[.int .i64 0, .int .i64 0, .int .i64 0], .bool false])) w3)
 (∀ w4 : World, w4 = w1.setRow w0.heap.size #[.int .i64 (IntKind.wrap .i64 ((IntKind.wrap .i64 (a0_0 * 16)) + (Int.tmod a1 16))), .int .i64 (IntKind.wrap .i64 (Int.tdiv a1 256)), .int .i64 (IntKind.wrap .i64 ((IntKind.wrap .i64 (a0_1 * 16)) + (IntKind.wrap .i64 (Int.tdiv (Int.tmod a1 256) 16))))] →
 R (.returned (.tuple #[.agg #[.int .i64 (IntKind.wrap .i64 ((IntKind.wrap .i64 (a0_0 * 16)) + (Int.tmod a1 16))), .int .i64 (IntKind.wrap .i64 (Int.tdiv a1 256)), .int .i64 (IntKind.wrap .i64 ((IntKind.wrap .i64 (a0_1 * 16)) + (IntKind.wrap .i64 (Int.tdiv (Int.tmod a1 256) 16))))], .bool true])) w4))
theorem ref03_From.vc {a0_0 a0_1 a1 w} {R : Ending → World → Prop} (h : ref03_From.pre a0_0 a0_1 a1 w R) : Calls Tryd.prog n_ref03_From #[.agg #[.int .i64 a0_0, .int .i64 a0_1], .int .i64 a1] w R :=
  calls_of_eq (an := ⟨[], [], []⟩) (args := [.agg #[.int .i64 a0_0, .int .i64 a0_1], .int .i64 a1]) Tryd.noNG Tryd.mixed Tryd.func68 h (by kernel_rfl)

/- breccia/brecciaref10.Block  -/
def ref10_Block.pre (a0 : Int) (a1_0 : Int) (a1_1 : Int) (a1_2 : Int) (w : World) (R : Ending → World → Prop) : Prop :=
 ∀ w0 : World, w0 = w.alloc (.cells #[.int .i64 a1_0, .int .i64 a1_1, .int .i64 a1_2] 23) →
 Calls Tryd.prog n_ref10_Ground #[.int .i64 a0, .int .i64 a1_0, .int .i64 a1_2] w0 (fun e w1 => ∃ (x2 : Int), e = .returned (.int .i64 x2) ∧ w1.heap[w.heap.size]? = w0.heap[w.heap.size]? ∧ 
 Br (decide ((a1_1 : Int) < 0))
 (R (.returned (.int .i64 0)) w1)
 (Br (decide ((a1_1 : Int) > 31))
 (R (.returned (.int .i64 0)) w1)
 (Br ((a1_1 : Int) == 0)
 (R (.returned (.int .i64 1)) w1)
 (Br (decide ((a1_1 : Int) < (IntKind.wrap .i64 (x2 - 3))))
 (R (.returned (.int .i64 1)) w1)
 (Br (decide ((a1_1 : Int) < (IntKind.wrap .i64 (x2 - 1))))
 (R (.returned (.int .i64 2)) w1)
 (Br ((a1_1 : Int) == (IntKind.wrap .i64 (x2 - 1)))
 (Br (decide ((x2 : Int) ≤ 9))
 (R (.returned (.int .i64 3)) w1)
 (R (.returned (.int .i64 2)) w1))
 (Br (decide ((a1_1 : Int) < 9))
 (R (.returned (.int .i64 8)) w1)
 (R (.returned (.int .i64 0)) w1))))))))
theorem ref10_Block.vc {a0 a1_0 a1_1 a1_2 w} {R : Ending → World → Prop} (h : ref10_Block.pre a0 a1_0 a1_1 a1_2 w R) : Calls Tryd.prog n_ref10_Block #[.int .i64 a0, .agg #[.int .i64 a1_0, .int .i64 a1_1, .int .i64 a1_2]] w R :=
  calls_of_eq (an := ⟨[], [], []⟩) (args := [.int .i64 a0, .agg #[.int .i64 a1_0, .int .i64 a1_1, .int .i64 a1_2]]) Tryd.noNG Tryd.mixed Tryd.func69 h (by kernel_rfl)

/- breccia/brecciaref05.Of  -/
def ref05_Of.pre (a0 : Sl) (w : World) (R : Ending → World → Prop) : Prop :=
 ∃ I0 : Nat → Int → Sl → World → Prop,
 (∃ n1, I0 n1 (0) ⟨none, 0, 0⟩ w) ∧
 ∀ (n1 : Nat) (us2 : Nat → Value) (x3 : Int) (s4 : Sl) (w5 : World), I0 n1 x3 s4 w5 →
 Br (decide ((x3 : Int) < ((a0.n : Nat) : Int)))
 (Br (decide ((x3 : Int) > 0))
 (InB a0.a (IntKind.wrap .i64 (x3 - 1)) a0.n ∧ ∃ (x7 : Int), ld w5.drew (padd a0.a (((IntKind.wrap .i64 (x3 - 1)) : Int).toNat * 1)) = some (.int .i64 x7) ∧
 InB a0.a x3 a0.n ∧ ∃ (x8 : Int), ld w5.drew (padd a0.a ((x3 : Int).toNat * 1)) = some (.int .i64 x8) ∧
 Br ((x7 : Int) == x8)
 (InB s4.a (IntKind.wrap .i64 (((s4.n : Nat) : Int) - 1)) s4.n ∧ AndL (nnC (padd s4.a (((IntKind.wrap .i64 (((s4.n : Nat) : Int) - 1)) : Int).toNat * 2))) (∃ (x9 : Int), ld w5.drew (padd (padd s4.a (((IntKind.wrap .i64 (((s4.n : Nat) : Int) - 1)) : Int).toNat * 2)) 0) = some (.int .i64 x9) ∧
 InB s4.a (IntKind.wrap .i64 (((s4.n : Nat) : Int) - 1)) s4.n ∧ AndL (nnC (padd s4.a (((IntKind.wrap .i64 (((s4.n : Nat) : Int) - 1)) : Int).toNat * 2))) ((((padd (padd s4.a (((IntKind.wrap .i64 (((s4.n : Nat) : Int) - 1)) : Int).toNat * 2)) 0)).isSome = true ∧ Wr w5.drew (padd (padd s4.a (((IntKind.wrap .i64 (((s4.n : Nat) : Int) - 1)) : Int).toNat * 2)) 0) 1) ∧ (∀ w10 : World, w10 = setP w5.drew (padd (padd s4.a (((IntKind.wrap .i64 (((s4.n : Nat) : Int) - 1)) : Int).toNat * 2)) 0) [.int .i64 (IntKind.wrap .i64 (x9 + 1))] →
 ∃ n6, n6 < n1 ∧ I0 n6 ((IntKind.wrap .i64 (x3 + 1))) ⟨s4.a, s4.n, s4.c⟩ w10))))
 (InB a0.a x3 a0.n ∧ ∃ (x11 : Int), ld w5.drew (padd a0.a ((x3 : Int).toNat * 1)) = some (.int .i64 x11) ∧
 ∀ w12 : World, w12 = w5.drew.alloc (.cells #[.int .i64 1, .int .i64 x11] 83) →
 AppPre 16 2 w12 ⟨s4.a, s4.n, s4.c⟩ 1 [.int .i64 1, .int .i64 x11] ∧ ∀ (s13 : Sl) (w14 : World), AppRes 83 2 w12 ⟨s4.a, s4.n, s4.c⟩ 1 [.int .i64 1, .int .i64 x11] s13 w14 → w14.heap[w5.drew.heap.size]? = w12.heap[w5.drew.heap.size]? ∧ 
 ∃ n6, n6 < n1 ∧ I0 n6 ((IntKind.wrap .i64 (x3 + 1))) ⟨s13.a, s13.n, s13.c⟩ w14))
 (InB a0.a x3 a0.n ∧ ∃ (x15 : Int), ld w5.drew (padd a0.a ((x3 : Int).toNat * 1)) = some (.int .i64 x15) ∧
 ∀ w16 : World, w16 = w5.drew.alloc (.cells #[.int .i64 1, .int .i64 x15] 83) →
 AppPre 16 2 w16 ⟨s4.a, s4.n, s4.c⟩ 1 [.int .i64 1, .int .i64 x15] ∧ ∀ (s17 : Sl) (w18 : World), AppRes 83 2 w16 ⟨s4.a, s4.n, s4.c⟩ 1 [.int .i64 1, .int .i64 x15] s17 w18 → w18.heap[w5.drew.heap.size]? = w16.heap[w5.drew.heap.size]? ∧ 
 ∃ n6, n6 < n1 ∧ I0 n6 ((IntKind.wrap .i64 (x3 + 1))) ⟨s17.a, s17.n, s17.c⟩ w18))
 (R (.returned (.slice s4.a s4.n s4.c)) w5)
theorem ref05_Of.vc {a0 w} {R : Ending → World → Prop} (h : ref05_Of.pre a0 w R) : Calls Tryd.prog n_ref05_Of #[.slice a0.a a0.n a0.c] w R :=
  calls_of_eq (an := ⟨[(3, ⟨[(4, .int .i64), (3, .slice)], [], []⟩)], [], []⟩) (args := [.slice a0.a a0.n a0.c]) Tryd.noNG Tryd.mixed Tryd.func70 h (by kernel_rfl)

/- breccia/brecciaref03.Index  -/
def ref03_Index.pre (a0_0 : Int) (a0_1 : Int) (a0_2 : Int) (w : World) (R : Ending → World → Prop) : Prop :=
 ∀ w0 : World, w0 = w.alloc (.cells #[.int .i64 a0_0, .int .i64 a0_1, .int .i64 a0_2] 23) →
 Br (decide ((a0_1 : Int) < 0))
 (R (.returned (.tuple #[.int .i64 0, .bool false])) w0)
 (Br (decide ((a0_1 : Int) > 31))
 (R (.returned (.tuple #[.int .i64 0, .bool false])) w0)
 (Calls Tryd.prog n_ref03_Mod #[.int .i64 a0_2, .int .i64 16] w0.drew (fun e w1 => ∃ (x2 : Int), e = .returned (.int .i64 x2) ∧ w1.heap[w.heap.size]? = w0.drew.heap[w.heap.size]? ∧ 
 LoadL w1 (some ⟨w.heap.size, 0, none⟩) 0 [.int .i64 a0_0] ∧ LoadL w1 (some ⟨w.heap.size, 1, none⟩) 0 [.int .i64 a0_1] ∧ Calls Tryd.prog n_ref03_Mod #[.int .i64 a0_0, .int .i64 16] w1 (fun e w3 => ∃ (x4 : Int), e = .returned (.int .i64 x4) ∧ w3.heap[w.heap.size]? = w1.heap[w.heap.size]? ∧ 
 LoadL w3 (some ⟨w.heap.size, 1, none⟩) 0 [.int .i64 a0_1] ∧ R (.returned (.tuple #[.int .i64 (IntKind.wrap .i64 ((IntKind.wrap .i64 ((IntKind.wrap .i64 (a0_1 * 256)) + (IntKind.wrap .i64 (x2 * 16)))) + x4)), .bool true])) w3))))
theorem ref03_Index.vc {a0_0 a0_1 a0_2 w} {R : Ending → World → Prop} (h : ref03_Index.pre a0_0 a0_1 a0_2 w R) : Calls Tryd.prog n_ref03_Index #[.agg #[.int .i64 a0_0, .int .i64 a0_1, .int .i64 a0_2]] w R :=
  calls_of_eq (an := ⟨[], [], []⟩) (args := [.agg #[.int .i64 a0_0, .int .i64 a0_1, .int .i64 a0_2]]) Tryd.noNG Tryd.mixed Tryd.func71 h (by kernel_rfl)

/- breccia/brecciaref03.Chunk  -/
def ref03_Chunk.pre (a0_0 : Int) (a0_1 : Int) (a0_2 : Int) (w : World) (R : Ending → World → Prop) : Prop :=
 ∀ w0 : World, w0 = w.alloc (.cells #[.int .i64 a0_0, .int .i64 a0_1, .int .i64 a0_2] 23) →
 ∀ w1 : World, w1 = w0.alloc (.cells #[.int .i64 0, .int .i64 0] 27) →
 Calls Tryd.prog n_ref03_Div #[.int .i64 a0_0, .int .i64 16] w1.drew (fun e w2 => ∃ (x3 : Int), e = .returned (.int .i64 x3) ∧ w2.heap[w.heap.size]? = w1.drew.heap[w.heap.size]? ∧ w2.heap[w0.heap.size]? = w1.drew.heap[w0.heap.size]? ∧ 
 LoadL w2 (some ⟨w.heap.size, 2, none⟩) 0 [.int .i64 a0_2] ∧ Calls Tryd.prog n_ref03_Div #[.int .i64 a0_2, .int .i64 16] w2 (fun e w4 => ∃ (x5 : Int), e = .returned (.int .i64 x5) ∧ w4.heap[w.heap.size]? = w2.heap[w.heap.size]? ∧ w4.heap[w0.heap.size]? = w2.heap[w0.heap.size]? ∧ 
 ∀ w6 : World, w6 = w4.setRow w0.heap.size #[.int .i64 x3, .int .i64 x5] →
 R (.returned (.agg #[.int .i64 x3, .int .i64 x5])) w6))
theorem ref03_Chunk.vc {a0_0 a0_1 a0_2 w} {R : Ending → World → Prop} (h : ref03_Chunk.pre a0_0 a0_1 a0_2 w R) : Calls Tryd.prog n_ref03_Chunk #[.agg #[.int .i64 a0_0, .int .i64 a0_1, .int .i64 a0_2]] w R :=
  calls_of_eq (an := ⟨[], [], []⟩) (args := [.agg #[.int .i64 a0_0, .int .i64 a0_1, .int .i64 a0_2]]) Tryd.noNG Tryd.mixed Tryd.func72 h (by kernel_rfl)

/- breccia/brecciaref05.Set  -/
def ref05_Set.pre (a0 : Sl) (a1 : Int) (a2 : Int) (w : World) (R : Ending → World → Prop) : Prop :=
 Calls Tryd.prog n_ref05_Cells #[.slice a0.a a0.n a0.c] w (fun e w0 => ∃ (s1 : Sl), e = .returned (.slice s1.a s1.n s1.c) ∧ 
 Calls Tryd.prog n_ref04_May #[.int .i64 a2] w0 (fun e w2 => ∃ (b3 : Bool), e = .returned (.bool b3) ∧ 
 Br b3
 (Br (decide ((a1 : Int) ≥ 0))
 (Br (decide ((a1 : Int) < ((s1.n : Nat) : Int)))
 (InB s1.a a1 s1.n ∧ (((padd s1.a ((a1 : Int).toNat * 1))).isSome = true ∧ Wr w2 (padd s1.a ((a1 : Int).toNat * 1)) 1) ∧ (∀ w4 : World, w4 = setP w2 (padd s1.a ((a1 : Int).toNat * 1)) [.int .i64 a2] →
 Calls Tryd.prog n_ref05_Of #[.slice s1.a s1.n s1.c] w4 (fun e w5 => ∃ (s6 : Sl), e = .returned (.slice s6.a s6.n s6.c) ∧ 
 R (.returned (.slice s6.a s6.n s6.c)) w5)))
 (Calls Tryd.prog n_ref05_Of #[.slice s1.a s1.n s1.c] w2 (fun e w7 => ∃ (s8 : Sl), e = .returned (.slice s8.a s8.n s8.c) ∧ 
 R (.returned (.slice s8.a s8.n s8.c)) w7)))
 (Calls Tryd.prog n_ref05_Of #[.slice s1.a s1.n s1.c] w2 (fun e w9 => ∃ (s10 : Sl), e = .returned (.slice s10.a s10.n s10.c) ∧ 
 R (.returned (.slice s10.a s10.n s10.c)) w9)))
 (Calls Tryd.prog n_ref05_Of #[.slice s1.a s1.n s1.c] w2 (fun e w11 => ∃ (s12 : Sl), e = .returned (.slice s12.a s12.n s12.c) ∧ 
 R (.returned (.slice s12.a s12.n s12.c)) w11))))
theorem ref05_Set.vc {a0 a1 a2 w} {R : Ending → World → Prop} (h : ref05_Set.pre a0 a1 a2 w R) : Calls Tryd.prog n_ref05_Set #[.slice a0.a a0.n a0.c, .int .i64 a1, .int .i64 a2] w R :=
  calls_of_eq (an := ⟨[], [], []⟩) (args := [.slice a0.a a0.n a0.c, .int .i64 a1, .int .i64 a2]) Tryd.noNG Tryd.mixed Tryd.func73 h (by kernel_rfl)

/- breccia/runs.All$1  -/
def runs_All_1.pre (a0 : Value) (c0 : Addr) (w : World) (R : Ending → World → Prop) : Prop :=
 ∃ (s0 : Sl), ld w (some c0) = some (.slice s0.a s0.n s0.c) ∧
 ∃ I1 : Nat → Int → Int → World → Prop,
 (∃ n2, I1 n2 (0) (0) w) ∧
 ∀ (n2 : Nat) (us3 : Nat → Value) (x4 : Int) (x5 : Int) (w6 : World), I1 n2 x4 x5 w6 →
 Br (decide ((x4 : Int) < ((s0.n : Nat) : Int)))
 (InB s0.a x4 s0.n ∧ ∃ (x8 : Int) (x9 : Int), LoadL w6 (padd s0.a ((x4 : Int).toNat * 2)) 0 [.int .i64 x8, .int .i64 x9] ∧
 ∀ w10 : World, w10 = w6.alloc (.cells #[.int .i64 0, .int .i64 0] 83) →
 ∀ w11 : World, w11 = w10.setRow w6.heap.size #[.int .i64 x8, .int .i64 x9] →
 ∃ I12 : Nat → Int → World → Prop,
 (∃ n13, ([.int .i64 x8, .int .i64 x9] : List Value) = [.int .i64 x8, .int .i64 x9] ∧ I12 n13 (0) w11) ∧
 ∀ (n13 : Nat) (us14 : Nat → Value) (x15 : Int) (w16 : World), I12 n13 x15 w16 →
 Br (decide ((x15 : Int) < x8))
 (callV Tryd.prog a0 [.int .i64 (IntKind.wrap .i64 (x5 + x15)), .int .i64 x9] w16 (fun e w18 => ∃ (b19 : Bool), e = .returned (.bool b19) ∧ w18.heap[w6.heap.size]? = w16.heap[w6.heap.size]? ∧ 
 Br (!b19)
 (R (.returned (.tuple #[])) w18)
 (∃ n17, n17 < n13 ∧ ([.int .i64 x8, .int .i64 x9] : List Value) = [.int .i64 x8, .int .i64 x9] ∧ I12 n17 ((IntKind.wrap .i64 (x15 + 1))) w18)))
 (∃ n7, n7 < n2 ∧ I1 n7 ((IntKind.wrap .i64 (x4 + 1))) ((IntKind.wrap .i64 (x5 + x8))) w16))
 (R (.returned (.tuple #[])) w6)
theorem runs_All_1.vc {a0 c0 w} {R : Ending → World → Prop} (h : runs_All_1.pre a0 c0 w R) : Calls Tryd.prog n_runs_All_1 #[a0, .pointer (some c0)] w R :=
  calls_of_eq (an := ⟨[(5, ⟨[(15, .int .i64)], [], []⟩), (2, ⟨[(9, .int .i64), (3, .int .i64)], [], []⟩)], [], []⟩) (args := [a0, .pointer (some c0)]) Tryd.noNG Tryd.mixed Tryd.func74 h (by kernel_rfl)

/- (*breccia/chunk.Chunk).rows$1  -/
def chunk_Chunk_rows_1.pre (a0 : Int) (a1 : Int) (a2 : Int) (w : World) (R : Ending → World → Prop) : Prop :=
 R (.returned (.tuple #[.int .i64 (if 0 > (IntKind.wrap .i64 (a0 - a2)) then 0 else (IntKind.wrap .i64 (a0 - a2))), .int .i64 (if 15 < (IntKind.wrap .i64 (a1 - a2)) then 15 else (IntKind.wrap .i64 (a1 - a2)))])) w
theorem chunk_Chunk_rows_1.vc {a0 a1 a2 w} {R : Ending → World → Prop} (h : chunk_Chunk_rows_1.pre a0 a1 a2 w R) : Calls Tryd.prog n_chunk_Chunk_rows_1 #[.int .i64 a0, .int .i64 a1, .int .i64 a2] w R :=
  calls_of_eq (an := ⟨[], [], []⟩) (args := [.int .i64 a0, .int .i64 a1, .int .i64 a2]) Tryd.noNG Tryd.mixed Tryd.func75 h (by kernel_rfl)

/- (*breccia/chunk.Chunk).rows$2  -/
def chunk_Chunk_rows_2.pre (a0 : Value) (c0 : Addr) (c1 : Addr) (c2 : Addr) (c3 : Addr) (c4 : Addr) (c5 : Addr) (w : World) (R : Ending → World → Prop) : Prop :=
 ∃ (x0 : Int), ld w (padd (some c0) 1) = some (.int .i64 x0) ∧
 ∃ I1 : Nat → Int → World → Prop,
 (∃ n2, I1 n2 ((if 0 > x0 then 0 else x0)) w) ∧
 ∀ (n2 : Nat) (us3 : Nat → Value) (x4 : Int) (w5 : World), I1 n2 x4 w5 →
 ∃ (x7 : Int), ld w5 (padd (some c1) 1) = some (.int .i64 x7) ∧
 Br (decide ((x4 : Int) ≤ (if 31 < x7 then 31 else x7)))
 (∃ (x8 : Int), ld w5 (some c2) = some (.int .i64 x8) ∧
 ∃ I9 : Nat → Int → World → Prop,
 (∃ n10, I9 n10 (x8) w5) ∧
 ∀ (n10 : Nat) (us11 : Nat → Value) (x12 : Int) (w13 : World), I9 n10 x12 w13 →
 ∃ (x15 : Int), ld w13 (some c3) = some (.int .i64 x15) ∧
 Br (decide ((x12 : Int) ≤ x15))
 (∃ (x16 : Int), ld w13 (some c4) = some (.int .i64 x16) ∧
 ∃ (x17 : Int), ld w13 (some c5) = some (.int .i64 x17) ∧
 Br (decide ((x16 : Int) ≤ x17))
 (∃ (x18 : Int), ld w13 (some c4) = some (.int .i64 x18) ∧
 ∃ (x19 : Int), ld w13 (some c5) = some (.int .i64 x19) ∧
 ∃ (x20 : Int), ld w13 (some c4) = some (.int .i64 x20) ∧
 callV Tryd.prog a0 [.int .i64 (IntKind.wrap .i64 ((IntKind.wrap .i64 ((IntKind.wrap .i64 ((IntKind.wrap .i64 (x4 * 16)) + x12)) * 16)) + x18)), .int .i64 (IntKind.wrap .i64 ((IntKind.wrap .i64 (x19 - x20)) + 1))] w13 (fun e w21 => ∃ (b22 : Bool), e = .returned (.bool b22) ∧ 
 Br (!b22)
 (R (.returned (.tuple #[])) w21)
 (∃ n14, n14 < n10 ∧ I9 n14 ((IntKind.wrap .i64 (x12 + 1))) w21)))
 (∃ n6, n6 < n2 ∧ I1 n6 ((IntKind.wrap .i64 (x4 + 1))) w13))
 (∃ n6, n6 < n2 ∧ I1 n6 ((IntKind.wrap .i64 (x4 + 1))) w13))
 (R (.returned (.tuple #[])) w5)
theorem chunk_Chunk_rows_2.vc {a0 c0 c1 c2 c3 c4 c5 w} {R : Ending → World → Prop} (h : chunk_Chunk_rows_2.pre a0 c0 c1 c2 c3 c4 c5 w R) : Calls Tryd.prog n_chunk_Chunk_rows_2 #[a0, .pointer (some c0), .pointer (some c1), .pointer (some c2), .pointer (some c3), .pointer (some c4), .pointer (some c5)] w R :=
  calls_of_eq (an := ⟨[(4, ⟨[(9, .int .i64)], [], []⟩), (1, ⟨[(8, .int .i64)], [], []⟩)], [], []⟩) (args := [a0, .pointer (some c0), .pointer (some c1), .pointer (some c2), .pointer (some c3), .pointer (some c4), .pointer (some c5)]) Tryd.noNG Tryd.mixed Tryd.func76 h (by kernel_rfl)

/- breccia/cell.cut  -/
def cell_cut.pre (a0 : Int) (w : World) (R : Ending → World → Prop) : Prop :=
 R (.returned (.int .i64 (if 2147483648 < (if (-2147483648) > a0 then (-2147483648) else a0) then 2147483648 else (if (-2147483648) > a0 then (-2147483648) else a0)))) w
theorem cell_cut.vc {a0 w} {R : Ending → World → Prop} (h : cell_cut.pre a0 w R) : Calls Tryd.prog n_cell_cut #[.int .i64 a0] w R :=
  calls_of_eq (an := ⟨[], [], []⟩) (args := [.int .i64 a0]) Tryd.noNG Tryd.mixed Tryd.func77 h (by kernel_rfl)

/- breccia/runs.join  -/
def runs_join.pre (a0 : Sl) (w : World) (R : Ending → World → Prop) : Prop :=
 ∃ I0 : Nat → Int → Sl → World → Prop,
 (∃ n1, I0 n1 (0) ⟨none, 0, 0⟩ w) ∧
 ∀ (n1 : Nat) (us2 : Nat → Value) (x3 : Int) (s4 : Sl) (w5 : World), I0 n1 x3 s4 w5 →
 Br (decide ((x3 : Int) < ((a0.n : Nat) : Int)))
 (InB a0.a x3 a0.n ∧ ∃ (s7 : Sl), ld w5 (padd a0.a ((x3 : Int).toNat * 1)) = some (.slice s7.a s7.n s7.c) ∧
 ∃ I8 : Nat → Int → Sl → World → Prop,
 (∃ n9, I8 n9 (0) ⟨s4.a, s4.n, s4.c⟩ w5) ∧
 ∀ (n9 : Nat) (us10 : Nat → Value) (x11 : Int) (s12 : Sl) (w13 : World), I8 n9 x11 s12 w13 →
 Br (decide ((x11 : Int) < ((s7.n : Nat) : Int)))
 (InB s7.a x11 s7.n ∧ ∃ (x15 : Int) (x16 : Int), LoadL w13 (padd s7.a ((x11 : Int).toNat * 2)) 0 [.int .i64 x15, .int .i64 x16] ∧
 ∀ w17 : World, w17 = w13.alloc (.cells #[.int .i64 0, .int .i64 0] 83) →
 ∀ w18 : World, w18 = w17.setRow w13.heap.size #[.int .i64 x15, .int .i64 x16] →
 Calls Tryd.prog n_runs_push #[.slice s12.a s12.n s12.c, .agg #[.int .i64 x15, .int .i64 x16]] w18 (fun e w19 => ∃ (s20 : Sl), e = .returned (.slice s20.a s20.n s20.c) ∧ w19.heap[w13.heap.size]? = w18.heap[w13.heap.size]? ∧ 
 ∃ n14, n14 < n9 ∧ I8 n14 ((IntKind.wrap .i64 (x11 + 1))) ⟨s20.a, s20.n, s20.c⟩ w19))
 (∃ n6, n6 < n1 ∧ I0 n6 ((IntKind.wrap .i64 (x3 + 1))) ⟨s12.a, s12.n, s12.c⟩ w13))
 (R (.returned (.slice s4.a s4.n s4.c)) w5)
theorem runs_join.vc {a0 w} {R : Ending → World → Prop} (h : runs_join.pre a0 w R) : Calls Tryd.prog n_runs_join #[.slice a0.a a0.n a0.c] w R :=
  calls_of_eq (an := ⟨[(6, ⟨[(16, .int .i64), (3, .slice)], [], []⟩), (3, ⟨[(10, .int .i64), (3, .slice)], [], []⟩)], [], []⟩) (args := [.slice a0.a a0.n a0.c]) Tryd.noNG Tryd.mixed Tryd.func78 h (by kernel_rfl)

/- breccia/runs.Cut  -/
def runs_Cut.pre (a0 : Sl) (a1 : Int) (a2 : Int) (w : World) (R : Ending → World → Prop) : Prop :=
 ∃ I0 : Nat → Int → Int → Sl → World → Prop,
 (∃ n1, I0 n1 (0) (0) ⟨none, 0, 0⟩ w) ∧
 ∀ (n1 : Nat) (us2 : Nat → Value) (x3 : Int) (x4 : Int) (s5 : Sl) (w6 : World), I0 n1 x3 x4 s5 w6 →
 Br (decide ((x3 : Int) < ((a0.n : Nat) : Int)))
 (InB a0.a x3 a0.n ∧ ∃ (x8 : Int) (x9 : Int), LoadL w6 (padd a0.a ((x3 : Int).toNat * 2)) 0 [.int .i64 x8, .int .i64 x9] ∧
 ∀ w10 : World, w10 = w6.alloc (.cells #[.int .i64 0, .int .i64 0] 83) →
 ∀ w11 : World, w11 = w10.setRow w6.heap.size #[.int .i64 x8, .int .i64 x9] →
 Br (decide (((if (IntKind.wrap .i64 (x4 + x8)) < a2 then (IntKind.wrap .i64 (x4 + x8)) else a2) : Int) > (if x4 > a1 then x4 else a1)))
 (Calls Tryd.prog n_runs_push #[.slice s5.a s5.n s5.c, .agg #[.int .i64 (IntKind.wrap .i64 ((if (IntKind.wrap .i64 (x4 + x8)) < a2 then (IntKind.wrap .i64 (x4 + x8)) else a2) - (if x4 > a1 then x4 else a1))), .int .i64 x9]] w11.drew (fun e w12 => ∃ (s13 : Sl), e = .returned (.slice s13.a s13.n s13.c) ∧ w12.heap[w6.heap.size]? = w11.drew.heap[w6.heap.size]? ∧ 
 ∃ n7, n7 < n1 ∧ I0 n7 ((IntKind.wrap .i64 (x3 + 1))) ((IntKind.wrap .i64 (x4 + x8))) ⟨s13.a, s13.n, s13.c⟩ w12))
 (∃ n7, n7 < n1 ∧ I0 n7 ((IntKind.wrap .i64 (x3 + 1))) ((IntKind.wrap .i64 (x4 + x8))) ⟨s5.a, s5.n, s5.c⟩ w11.drew))
 (R (.returned (.slice s5.a s5.n s5.c)) w6)
theorem runs_Cut.vc {a0 a1 a2 w} {R : Ending → World → Prop} (h : runs_Cut.pre a0 a1 a2 w R) : Calls Tryd.prog n_runs_Cut #[.slice a0.a a0.n a0.c, .int .i64 a1, .int .i64 a2] w R :=
  calls_of_eq (an := ⟨[(4, ⟨[(15, .int .i64), (8, .int .i64), (7, .slice)], [], []⟩)], [], []⟩) (args := [.slice a0.a a0.n a0.c, .int .i64 a1, .int .i64 a2]) Tryd.noNG Tryd.mixed Tryd.func79 h (by kernel_rfl)

/- breccia/runs.Make  -/
def runs_Make.pre (a0 : Int) (a1 : Int) (w : World) (R : Ending → World → Prop) : Prop :=
 Calls Tryd.prog n_runs_push #[.slice none 0 0, .agg #[.int .i64 a0, .int .i64 a1]] w (fun e w0 => ∃ (s1 : Sl), e = .returned (.slice s1.a s1.n s1.c) ∧ 
 R (.returned (.slice s1.a s1.n s1.c)) w0)
theorem runs_Make.vc {a0 a1 w} {R : Ending → World → Prop} (h : runs_Make.pre a0 a1 w R) : Calls Tryd.prog n_runs_Make #[.int .i64 a0, .int .i64 a1] w R :=
  calls_of_eq (an := ⟨[], [], []⟩) (args := [.int .i64 a0, .int .i64 a1]) Tryd.noNG Tryd.mixed Tryd.func80 h (by kernel_rfl)

/- breccia/code.Number  -/
def code_Number.pre (a0 : Int) (w : World) (R : Ending → World → Prop) : Prop :=
 Br (decide ((a0 : Int) < 0))
 (R (.returned (.slice none 0 0)) w)
 (Br (decide ((a0 : Int) > 1048576))
 (R (.returned (.slice none 0 0)) w)
 (∃ I0 : Nat → Int → Sl → World → Prop,
 (∃ n1, I0 n1 (a0) ⟨none, 0, 0⟩ w) ∧
 ∀ (n1 : Nat) (us2 : Nat → Value) (x3 : Int) (s4 : Sl) (w5 : World), I0 n1 x3 s4 w5 →
 Br (decide ((x3 : Int) ≥ 128))
 (∀ w7 : World, w7 = w5.alloc (.cells #[.int .u8 (bOr .u8 (IntKind.wrap .u8 x3) 128)] 5) →
 AppPre 1 1 w7 ⟨s4.a, s4.n, s4.c⟩ 1 [.int .u8 (bOr .u8 (IntKind.wrap .u8 x3) 128)] ∧ ∀ (s8 : Sl) (w9 : World), AppRes 5 1 w7 ⟨s4.a, s4.n, s4.c⟩ 1 [.int .u8 (bOr .u8 (IntKind.wrap .u8 x3) 128)] s8 w9 → w9.heap[w5.heap.size]? = w7.heap[w5.heap.size]? ∧ 
 ∃ n6, n6 < n1 ∧ I0 n6 (((x3 : Int).fdiv (2 ^ (min (7 : Int).toNat 64)))) ⟨s8.a, s8.n, s8.c⟩ w9)
 (∀ w10 : World, w10 = w5.alloc (.cells #[.int .u8 (IntKind.wrap .u8 x3)] 5) →
 AppPre 1 1 w10 ⟨s4.a, s4.n, s4.c⟩ 1 [.int .u8 (IntKind.wrap .u8 x3)] ∧ ∀ (s11 : Sl) (w12 : World), AppRes 5 1 w10 ⟨s4.a, s4.n, s4.c⟩ 1 [.int .u8 (IntKind.wrap .u8 x3)] s11 w12 → w12.heap[w5.heap.size]? = w10.heap[w5.heap.size]? ∧ 
 R (.returned (.slice s11.a s11.n s11.c)) w12)))
theorem code_Number.vc {a0 w} {R : Ending → World → Prop} (h : code_Number.pre a0 w R) : Calls Tryd.prog n_code_Number #[.int .i64 a0] w R :=
  calls_of_eq (an := ⟨[(4, ⟨[(0, .int .i64), (3, .slice)], [], []⟩)], [], []⟩) (args := [.int .i64 a0]) Tryd.noNG Tryd.mixed Tryd.func81 h (by kernel_rfl)

/- breccia/code.Digits  -/
def code_Digits.pre (a0 : Sl) (w : World) (R : Ending → World → Prop) : Prop :=
 (0 : Int) ≤ (if 3 < ((a0.n : Nat) : Int) then 3 else ((a0.n : Nat) : Int)) ∧ (if 3 < ((a0.n : Nat) : Int) then 3 else ((a0.n : Nat) : Int)) ≤ ((a0.c : Nat) : Int) ∧ ∃ I0 : Nat → Int → Int → World → Prop,
 (∃ n1, I0 n1 (0) (0) w) ∧
 ∀ (n1 : Nat) (us2 : Nat → Value) (x3 : Int) (x4 : Int) (w5 : World), I0 n1 x3 x4 w5 →
 Br (decide ((x3 : Int) < (((((if 3 < ((a0.n : Nat) : Int) then 3 else ((a0.n : Nat) : Int)) : Int).toNat - 0) : Nat) : Int)))
 (InB (slBase a0.a (0) (a0.c) 1) x3 (((if 3 < ((a0.n : Nat) : Int) then 3 else ((a0.n : Nat) : Int)) : Int).toNat - 0) ∧ ∃ (x7 : Int), ld w5 (padd (slBase a0.a (0) (a0.c) 1) ((x3 : Int).toNat * 1)) = some (.int .u8 x7) ∧
 AndL (ngC (IntKind.wrap .i64 (7 * x3))) (Br (decide ((x7 : Int) ≥ 128))
 (∃ n6, n6 < n1 ∧ I0 n6 ((IntKind.wrap .i64 (x3 + 1))) ((bOr .i64 x4 (IntKind.wrap .i64 ((IntKind.wrap .i64 (bAndNot .u8 x7 128)) * 2 ^ (min ((IntKind.wrap .i64 (7 * x3)) : Int).toNat 64))))) w5)
 (Br ((x7 : Int) == 0)
 (Br (decide ((x3 : Int) > 0))
 (R (.returned (.tuple #[.int .i64 0, .int .i64 0, .int .i64 2])) w5)
 (Br (decide (((bOr .i64 x4 (IntKind.wrap .i64 ((IntKind.wrap .i64 (bAndNot .u8 x7 128)) * 2 ^ (min ((IntKind.wrap .i64 (7 * x3)) : Int).toNat 64)))) : Int) > 1048576))
 (R (.returned (.tuple #[.int .i64 0, .int .i64 0, .int .i64 2])) w5)
 (R (.returned (.tuple #[.int .i64 (bOr .i64 x4 (IntKind.wrap .i64 ((IntKind.wrap .i64 (bAndNot .u8 x7 128)) * 2 ^ (min ((IntKind.wrap .i64 (7 * x3)) : Int).toNat 64)))), .int .i64 (IntKind.wrap .i64 (x3 + 1)), .int .i64 0])) w5)))
 (Br (decide (((bOr .i64 x4 (IntKind.wrap .i64 ((IntKind.wrap .i64 (bAndNot .u8 x7 128)) * 2 ^ (min ((IntKind.wrap .i64 (7 * x3)) : Int).toNat 64)))) : Int) > 1048576))
 (R (.returned (.tuple #[.int .i64 0, .int .i64 0, .int .i64 2])) w5)
 (R (.returned (.tuple #[.int .i64 (bOr .i64 x4 (IntKind.wrap .i64 ((IntKind.wrap .i64 (bAndNot .u8 x7 128)) * 2 ^ (min ((IntKind.wrap .i64 (7 * x3)) : Int).toNat 64)))), .int .i64 (IntKind.wrap .i64 (x3 + 1)), .int .i64 0])) w5)))))
 (Br (decide ((((a0.n : Nat) : Int) : Int) < 3))
 (R (.returned (.tuple #[.int .i64 0, .int .i64 0, .int .i64 3])) w5)
 (R (.returned (.tuple #[.int .i64 0, .int .i64 0, .int .i64 2])) w5))
theorem code_Digits.vc {a0 w} {R : Ending → World → Prop} (h : code_Digits.pre a0 w R) : Calls Tryd.prog n_code_Digits #[.slice a0.a a0.n a0.c] w R :=
  calls_of_eq (an := ⟨[(3, ⟨[(14, .int .i64), (5, .int .i64)], [], []⟩)], [], []⟩) (args := [.slice a0.a a0.n a0.c]) Tryd.noNG Tryd.mixed Tryd.func82 h (by kernel_rfl)

/- breccia/brecciaref06.Digits  -/
def ref06_Digits.pre (a0 : Sl) (w : World) (R : Ending → World → Prop) : Prop :=
 ∃ I0 : Nat → Int → Int → Int → World → Prop,
 (∃ n1, I0 n1 (0) (0) (1) w) ∧
 ∀ (n1 : Nat) (us2 : Nat → Value) (x3 : Int) (x4 : Int) (x5 : Int) (w6 : World), I0 n1 x3 x4 x5 w6 →
 Br (decide ((x3 : Int) < 3))
 (Br (decide ((x3 : Int) ≥ ((a0.n : Nat) : Int)))
 (R (.returned (.tuple #[.int .i64 0, .int .i64 0, .int .i64 3])) w6)
 (InB a0.a x3 a0.n ∧ ∃ (x8 : Int), ld w6 (padd a0.a ((x3 : Int).toNat * 1)) = some (.int .u8 x8) ∧
 Br (decide (((IntKind.wrap .i64 x8) : Int) ≥ 128))
 (∃ n7, n7 < n1 ∧ I0 n7 ((IntKind.wrap .i64 (x3 + 1))) ((IntKind.wrap .i64 (x4 + (IntKind.wrap .i64 ((Int.tmod (IntKind.wrap .i64 x8) 128) * x5))))) ((IntKind.wrap .i64 (x5 * 128))) w6)
 (Br (((IntKind.wrap .i64 x8) : Int) == 0)
 (Br (decide ((x3 : Int) > 0))
 (R (.returned (.tuple #[.int .i64 0, .int .i64 0, .int .i64 2])) w6)
 (Br (decide (((IntKind.wrap .i64 (x4 + (IntKind.wrap .i64 ((Int.tmod (IntKind.wrap .i64 x8) 128) * x5)))) : Int) > 1048576))
 (R (.returned (.tuple #[.int .i64 0, .int .i64 0, .int .i64 2])) w6)
 (R (.returned (.tuple #[.int .i64 (IntKind.wrap .i64 (x4 + (IntKind.wrap .i64 ((Int.tmod (IntKind.wrap .i64 x8) 128) * x5)))), .int .i64 (IntKind.wrap .i64 (x3 + 1)), .int .i64 0])) w6)))
 (Br (decide (((IntKind.wrap .i64 (x4 + (IntKind.wrap .i64 ((Int.tmod (IntKind.wrap .i64 x8) 128) * x5)))) : Int) > 1048576))
 (R (.returned (.tuple #[.int .i64 0, .int .i64 0, .int .i64 2])) w6)
 (R (.returned (.tuple #[.int .i64 (IntKind.wrap .i64 (x4 + (IntKind.wrap .i64 ((Int.tmod (IntKind.wrap .i64 x8) 128) * x5)))), .int .i64 (IntKind.wrap .i64 (x3 + 1)), .int .i64 0])) w6)))))
 (R (.returned (.tuple #[.int .i64 0, .int .i64 0, .int .i64 2])) w6)
theorem ref06_Digits.vc {a0 w} {R : Ending → World → Prop} (h : ref06_Digits.pre a0 w R) : Calls Tryd.prog n_ref06_Digits #[.slice a0.a a0.n a0.c] w R :=
  calls_of_eq (an := ⟨[(4, ⟨[(7, .int .i64), (5, .int .i64), (6, .int .i64)], [], []⟩)], [], []⟩) (args := [.slice a0.a a0.n a0.c]) Tryd.noNG Tryd.mixed Tryd.func83 h (by kernel_rfl)

/- breccia/gen.Cells$1  -/
def gen_Cells_1.pre (a0 : Value) (c0 : Addr) (c1 : Addr) (w : World) (R : Ending → World → Prop) : Prop :=
 ∀ w0 : World, w0 = w.alloc (.cells #[.int .i64 0, .int .i64 0, .int .i64 0, .int .i64 0, .int .i64 0, .int .i64 0, .int .i64 0, .int .i64 0, .int .i64 0, .int .i64 0, .int .i64 0, .int .i64 0, .int .i64 0, .int .i64 0, .int .i64 0, .int .i64 0, .int .i64 0, .int .i64 0, .int .i64 0, .int .i64 0, .int .i64 0, .int .i64 0, .int .i64 0, .int .i64 0, .int .i64 0, .int .i64 0, .int .i64 0, .int .i64 0, .int .i64 0, .int .i64 0, .int .i64 0, .int .i64 0, .int .i64 0, .int .i64 0, .int .i64 0, .int .i64 0, .int .i64 0, .int .i64 0, .int .i64 0, .int .i64 0, .int .i64 0, .int .i64 0, .int .i64 0, .int .i64 0, .int .i64 0, .int .i64 0, .int .i64 0, .int .i64 0, .int .i64 0, .int .i64 0, .int .i64 0, .int .i64 0, .int .i64 0, .int .i64 0, .int .i64 0, .int .i64 0, .int .i64 0, .int .i64 0, .int .i64 0, .int .i64 0, .int .i64 0, .int .i64 0, .int .i64 0, .int .i64 0, .int .i64 0, .int .i64 0, .int .i64 0, .int .i64 0, .int .i64 0, .int .i64 0, .int .i64 0, .int .i64 0, .int .i64 0, .int .i64 0, .int .i64 0, .int .i64 0, .int .i64 0, .int .i64 0, .int .i64 0, .int .i64 0, .int .i64 0, .int .i64 0, .int .i64 0, .int .i64 0, .int .i64 0, .int .i64 0, .int .i64 0, .int .i64 0, .int .i64 0, .int .i64 0, .int .i64 0, .int .i64 0, .int .i64 0, .int .i64 0, .int .i64 0, .int .i64 0, .int .i64 0, .int .i64 0, .int .i64 0, .int .i64 0, .int .i64 0, .int .i64 0, .int .i64 0, .int .i64 0, .int .i64 0, .int .i64 0, .int .i64 0, .int .i64 0, .int .i64 0, .int .i64 0, .int .i64 0, .int .i64 0, .int .i64 0, .int .i64 0, .int .i64 0, .int .i64 0, .int .i64 0, .int .i64 0, .int .i64 0, .int .i64 0, .int .i64 0, .int .i64 0, .int .i64 0, .int .i64 0, .int .i64 0, .int .i64 0, .int .i64 0, .int .i64 0, .int .i64 0, .int .i64 0, .int .i64 0, .int .i64 0, .int .i64 0, .int .i64 0, .int .i64 0, .int .i64 0, .int .i64 0, .int .i64 0, .int .i64 0, .int .i64 0, .int .i64 0, .int .i64 0, .int .i64 0, .int .i64 0, .int .i64 0, .int .i64 0, .int .i64 0, .int .i64 0, .int .i64 0, .int .i64 0, .int .i64 0, .int .i64 0, .int .i64 0, .int .i64 0, .int .i64 0, .int .i64 0, .int .i64 0, .int .i64 0, .int .i64 0, .int .i64 0, .int .i64 0, .int .i64 0, .int .i64 0, .int .i64 0, .int .i64 0, .int .i64 0, .int .i64 0, .int .i64 0, .int .i64 0, .int .i64 0, .int .i64 0, .int .i64 0, .int .i64 0, .int .i64 0, .int .i64 0, .int .i64 0, .int .i64 0, .int .i64 0, .int .i64 0, .int .i64 0, .int .i64 0, .int .i64 0, .int .i64 0, .int .i64 0, .int .i64 0, .int .i64 0, .int .i64 0, .int .i64 0, .int .i64 0, .int .i64 0, .int .i64 0, .int .i64 0, .int .i64 0, .int .i64 0, .int .i64 0, .int .i64 0, .int .i64 0, .int .i64 0, .int .i64 0, .int .i64 0, .int .i64 0, .int .i64 0, .int .i64 0, .int .i64 0, .int .i64 0, .int .i64 0, .int .i64 0, .int .i64 0, .int .i64 0, .int .i64 0, .int .i64 0, .int .i64 0, .int .i64 0, .int .i64 0, .int .i64 0, .int .i64 0, .int .i64 0, .int .i64 0, .int .i64 0, .int .i64 0, .int .i64 0, .int .i64 0, .int .i64 0, .int .i64 0, .int .i64 0, .int .i64 0, .int .i64 0, .int .i64 0, .int .i64 0, .int .i64 0, .int .i64 0, .int .i64 0, .int .i64 0, .int .i64 0, .int .i64 0, .int .i64 0, .int .i64 0, .int .i64 0, .int .i64 0, .int .i64 0, .int .i64 0, .int .i64 0, .int .i64 0, .int .i64 0, .int .i64 0, .int .i64 0, .int .i64 0, .int .i64 0, .int .i64 0, .int .i64 0, .int .i64 0, .int .i64 0, .int .i64 0, .int .i64 0, .int .i64 0, .int .i64 0] 118) →
 ∃ I1 : Nat → Int → World → Prop,
 (∃ n2, I1 n2 (0) w0) ∧
 ∀ (n2 : Nat) (us3 : Nat → Value) (x4 : Int) (w5 : World), I1 n2 x4 w5 →
 Br (decide ((x4 : Int) < 256))
 (∃ (x7 : Int) (x8 : Int), LoadL w5 (some c0) 0 [.int .i64 x7, .int .i64 x8] ∧
 Calls Tryd.prog n_cell_From #[.agg #[.int .i64 x7, .int .i64 x8], .int .i64 x4] w5 (fun e w9 => ∃ (x10 : Int) (x11 : Int) (x12 : Int) (b13 : Bool), e = .returned (.tuple #[.agg #[.int .i64 x10, .int .i64 x11, .int .i64 x12], .bool b13]) ∧ 
 ∀ w14 : World, w14 = w9.alloc (.cells #[.int .i64 0, .int .i64 0, .int .i64 0] 23) →
 ∀ w15 : World, w15 = w14.setRow w9.heap.size #[.int .i64 x10, .int .i64 x11, .int .i64 x12] →
 ∃ (x16 : Int), ld w15 (some c1) = some (.int .i64 x16) ∧
 Calls Tryd.prog n_gen_Ground #[.int .i64 x16, .int .i64 x10, .int .i64 x12] w15 (fun e w17 => ∃ (x18 : Int), e = .returned (.int .i64 x18) ∧ w17.heap[w9.heap.size]? = w15.heap[w9.heap.size]? ∧ 
 (0 : Int) ≤ x4 ∧ (x4 : Int) < ((256 : Nat) : Int) ∧ (true = true ∧ Wr w17 (padd (some ⟨w.heap.size, 0, none⟩) ((x4 : Int).toNat * 1)) 1) ∧ pblk (padd (some ⟨w.heap.size, 0, none⟩) ((x4 : Int).toNat * 1)) ≠ some w9.heap.size ∧ (∀ w19 : World, w19 = setP w17 (padd (some ⟨w.heap.size, 0, none⟩) ((x4 : Int).toNat * 1)) [.int .i64 x18] →
 ∃ n6, n6 < n2 ∧ I1 n6 ((IntKind.wrap .i64 (x4 + 1))) w19))))
 (∃ I20 : Nat → Int → World → Prop,
 (∃ n21, I20 n21 (0) w5) ∧
 ∀ (n21 : Nat) (us22 : Nat → Value) (x23 : Int) (w24 : World), I20 n21 x23 w24 →
 Br (decide ((x23 : Int) < 8192))
 ((0 : Int) ≤ (Int.tmod x23 256) ∧ ((Int.tmod x23 256) : Int) < ((256 : Nat) : Int) ∧ ∃ (x26 : Int), ld w24 (padd (some ⟨w.heap.size, 0, none⟩) (((Int.tmod x23 256) : Int).toNat * 1)) = some (.int .i64 x26) ∧
 Calls Tryd.prog n_gen_of #[.int .i64 (IntKind.wrap .i64 (Int.tdiv x23 256)), .int .i64 x26] w24 (fun e w27 => ∃ (x28 : Int), e = .returned (.int .i64 x28) ∧ 
 callV Tryd.prog a0 [.int .i64 x28] w27 (fun e w29 => ∃ (b30 : Bool), e = .returned (.bool b30) ∧ 
 Br (!b30)
 (R (.returned (.tuple #[])) w29)
 (∃ n25, n25 < n21 ∧ I20 n25 ((IntKind.wrap .i64 (x23 + 1))) w29))))
 (R (.returned (.tuple #[])) w24))
theorem gen_Cells_1.vc {a0 c0 c1 w} {R : Ending → World → Prop} (h : gen_Cells_1.pre a0 c0 c1 w R) : Calls Tryd.prog n_gen_Cells_1 #[a0, .pointer (some c0), .pointer (some c1)] w R :=
  calls_of_eq (an := ⟨[(8, ⟨[(27, .int .i64)], [], []⟩), (2, ⟨[(9, .int .i64)], [], []⟩)], [], []⟩) (args := [a0, .pointer (some c0), .pointer (some c1)]) Tryd.noNG Tryd.mixed Tryd.func84 h (by kernel_rfl)

/- breccia/cell.From  -/
def cell_From.pre (a0_0 : Int) (a0_1 : Int) (a1 : Int) (w : World) (R : Ending → World → Prop) : Prop :=
 ∀ w0 : World, w0 = w.alloc (.cells #[.int .i64 a0_0, .int .i64 a0_1] 27) →
 ∀ w1 : World, w1 = w0.alloc (.cells #[.int .i64 0, .int .i64 0, .int .i64 0] 23) →
 Br (decide ((a1 : Int) < 0))
 (∀ w2 : World, w2 = w1.setRow w0.heap.size #[.int .i64 0, .int .i64 0, .int .i64 0] →
 R (.returned (.tuple #[.agg #[.int .i64 0, .int .i64 0, .int .i64 0], .bool false])) w2)
 (Br (decide ((a1 : Int) ≥ 8192))
 (∀ w3 : World, w3 = w1.setRow w0.heap.size #[.int .i64 0, .int .i64 0, .int .i64 0] →
 R (.returned (.tuple #[.agg #[.int .i64 0, .int .i64 0, .int .i64 0], .bool false])) w3)
 (∀ w4 : World, w4 = w1.setRow w0.heap.size #[.int .i64 (IntKind.wrap .i64 ((IntKind.wrap .i64 (a0_0 * 16)) + (Int.tmod a1 16))), .int .i64 (IntKind.wrap .i64 (Int.tdiv a1 256)), .int .i64 (IntKind.wrap .i64 ((IntKind.wrap .i64 (a0_1 * 16)) + (Int.tmod (IntKind.wrap .i64 (Int.tdiv a1 16)) 16)))] →
 R (.returned (.tuple #[.agg #[.int .i64 (IntKind.wrap .i64 ((IntKind.wrap .i64 (a0_0 * 16)) + (Int.tmod a1 16))), .int .i64 (IntKind.wrap .i64 (Int.tdiv a1 256)), .int .i64 (IntKind.wrap .i64 ((IntKind.wrap .i64 (a0_1 * 16)) + (Int.tmod (IntKind.wrap .i64 (Int.tdiv a1 16)) 16)))], .bool true])) w4))
theorem cell_From.vc {a0_0 a0_1 a1 w} {R : Ending → World → Prop} (h : cell_From.pre a0_0 a0_1 a1 w R) : Calls Tryd.prog n_cell_From #[.agg #[.int .i64 a0_0, .int .i64 a0_1], .int .i64 a1] w R :=
  calls_of_eq (an := ⟨[], [], []⟩) (args := [.agg #[.int .i64 a0_0, .int .i64 a0_1], .int .i64 a1]) Tryd.noNG Tryd.mixed Tryd.func85 h (by kernel_rfl)

/- breccia/gen.Ground  -/
def gen_Ground.pre (a0 : Int) (a1 : Int) (a2 : Int) (w : World) (R : Ending → World → Prop) : Prop :=
 ∀ w0 : World, w0 = w.alloc (.cells #[.int .i64 a0] 3) →
 Calls Tryd.prog n_cell_Div #[.int .i64 a1, .int .i64 8] w0 (fun e w1 => ∃ (x2 : Int), e = .returned (.int .i64 x2) ∧ w1.heap[w.heap.size]? = w0.heap[w.heap.size]? ∧ 
 Calls Tryd.prog n_cell_Div #[.int .i64 a2, .int .i64 8] w1 (fun e w3 => ∃ (x4 : Int), e = .returned (.int .i64 x4) ∧ w3.heap[w.heap.size]? = w1.heap[w.heap.size]? ∧ 
 Calls Tryd.prog n_cell_Mod #[.int .i64 a1, .int .i64 8] w3 (fun e w5 => ∃ (x6 : Int), e = .returned (.int .i64 x6) ∧ w5.heap[w.heap.size]? = w3.heap[w.heap.size]? ∧ 
 Calls Tryd.prog n_cell_Mod #[.int .i64 a2, .int .i64 8] w5 (fun e w7 => ∃ (x8 : Int), e = .returned (.int .i64 x8) ∧ w7.heap[w.heap.size]? = w5.heap[w.heap.size]? ∧ 
 Calls Tryd.prog n_gen_Ground_1 #[.int .i64 x2, .int .i64 x4, .int .i64 (IntKind.wrap .i64 ((IntKind.wrap .i64 (8 - x6)) * (IntKind.wrap .i64 (8 - x8)))), .pointer (some ⟨w.heap.size, 0, none⟩)] w7 (fun e w9 => ∃ (x10 : Int), e = .returned (.int .i64 x10) ∧ 
 Calls Tryd.prog n_gen_Ground_1 #[.int .i64 (IntKind.wrap .i64 (x2 + 1)), .int .i64 x4, .int .i64 (IntKind.wrap .i64 (x6 * (IntKind.wrap .i64 (8 - x8)))), .pointer (some ⟨w.heap.size, 0, none⟩)] w9 (fun e w11 => ∃ (x12 : Int), e = .returned (.int .i64 x12) ∧ 
 Calls Tryd.prog n_gen_Ground_1 #[.int .i64 x2, .int .i64 (IntKind.wrap .i64 (x4 + 1)), .int .i64 (IntKind.wrap .i64 ((IntKind.wrap .i64 (8 - x6)) * x8)), .pointer (some ⟨w.heap.size, 0, none⟩)] w11 (fun e w13 => ∃ (x14 : Int), e = .returned (.int .i64 x14) ∧ 
 Calls Tryd.prog n_gen_Ground_1 #[.int .i64 (IntKind.wrap .i64 (x2 + 1)), .int .i64 (IntKind.wrap .i64 (x4 + 1)), .int .i64 (IntKind.wrap .i64 (x6 * x8)), .pointer (some ⟨w.heap.size, 0, none⟩)] w13 (fun e w15 => ∃ (x16 : Int), e = .returned (.int .i64 x16) ∧ 
 R (.returned (.int .i64 (IntKind.wrap .i64 (6 + (IntKind.wrap .i64 (Int.tdiv (IntKind.wrap .i64 ((IntKind.wrap .i64 ((IntKind.wrap .i64 (x10 + x12)) + x14)) + x16)) 64)))))) w15))))))))
theorem gen_Ground.vc {a0 a1 a2 w} {R : Ending → World → Prop} (h : gen_Ground.pre a0 a1 a2 w R) : Calls Tryd.prog n_gen_Ground #[.int .i64 a0, .int .i64 a1, .int .i64 a2] w R :=
  calls_of_eq (an := ⟨[], [], []⟩) (args := [.int .i64 a0, .int .i64 a1, .int .i64 a2]) Tryd.noNG Tryd.mixed Tryd.func86 h (by kernel_rfl)

/- breccia/gen.of  -/
def gen_of.pre (a0 : Int) (a1 : Int) (w : World) (R : Ending → World → Prop) : Prop :=
 Br (decide ((a0 : Int) < 0))
 (R (.returned (.int .i64 0)) w)
 (Br (decide ((a0 : Int) ≥ 32))
 (R (.returned (.int .i64 0)) w)
 (Br ((a0 : Int) == 0)
 (R (.returned (.int .i64 1)) w)
 (Br (decide ((a0 : Int) < (IntKind.wrap .i64 (a1 - 3))))
 (R (.returned (.int .i64 1)) w)
 (Br (decide ((a0 : Int) < (IntKind.wrap .i64 (a1 - 1))))
 (R (.returned (.int .i64 2)) w)
 (Br ((a0 : Int) == (IntKind.wrap .i64 (a1 - 1)))
 (Br (decide ((a1 : Int) > 9))
 (R (.returned (.int .i64 2)) w)
 (Br ((a0 : Int) == (IntKind.wrap .i64 (a1 - 1)))
 (R (.returned (.int .i64 3)) w)
 (Br (decide ((a0 : Int) < 9))
 (R (.returned (.int .i64 8)) w)
 (R (.returned (.int .i64 0)) w))))
 (Br ((a0 : Int) == (IntKind.wrap .i64 (a1 - 1)))
 (R (.returned (.int .i64 3)) w)
 (Br (decide ((a0 : Int) < 9))
 (R (.returned (.int .i64 8)) w)
 (R (.returned (.int .i64 0)) w))))))))
theorem gen_of.vc {a0 a1 w} {R : Ending → World → Prop} (h : gen_of.pre a0 a1 w R) : Calls Tryd.prog n_gen_of #[.int .i64 a0, .int .i64 a1] w R :=
  calls_of_eq (an := ⟨[], [], []⟩) (args := [.int .i64 a0, .int .i64 a1]) Tryd.noNG Tryd.mixed Tryd.func87 h (by kernel_rfl)

/- breccia/runs.push  -/
def runs_push.pre (a0 : Sl) (a1_0 : Int) (a1_1 : Int) (w : World) (R : Ending → World → Prop) : Prop :=
 ∀ w0 : World, w0 = w.alloc (.cells #[.int .i64 a1_0, .int .i64 a1_1] 83) →
 Br (decide ((a1_0 : Int) < 1))
 (R (.returned (.slice a0.a a0.n a0.c)) w0)
 (Br (decide (((IntKind.wrap .i64 (((a0.n : Nat) : Int) - 1)) : Int) ≥ 0))
 (InB a0.a (IntKind.wrap .i64 (((a0.n : Nat) : Int) - 1)) a0.n ∧ AndL (nnC (padd a0.a (((IntKind.wrap .i64 (((a0.n : Nat) : Int) - 1)) : Int).toNat * 2))) (∃ (x1 : Int), ld w0.drew (padd (padd a0.a (((IntKind.wrap .i64 (((a0.n : Nat) : Int) - 1)) : Int).toNat * 2)) 1) = some (.int .i64 x1) ∧
 Br ((x1 : Int) == a1_1)
 (InB a0.a (IntKind.wrap .i64 (((a0.n : Nat) : Int) - 1)) a0.n ∧ AndL (nnC (padd a0.a (((IntKind.wrap .i64 (((a0.n : Nat) : Int) - 1)) : Int).toNat * 2))) (∃ (x2 : Int), ld w0.drew.drew (padd (padd a0.a (((IntKind.wrap .i64 (((a0.n : Nat) : Int) - 1)) : Int).toNat * 2)) 0) = some (.int .i64 x2) ∧
 InB a0.a (IntKind.wrap .i64 (((a0.n : Nat) : Int) - 1)) a0.n ∧ AndL (nnC (padd a0.a (((IntKind.wrap .i64 (((a0.n : Nat) : Int) - 1)) : Int).toNat * 2))) ((((padd (padd a0.a (((IntKind.wrap .i64 (((a0.n : Nat) : Int) - 1)) : Int).toNat * 2)) 0)).isSome = true ∧ Wr w0.drew.drew (padd (padd a0.a (((IntKind.wrap .i64 (((a0.n : Nat) : Int) - 1)) : Int).toNat * 2)) 0) 1) ∧ pblk (padd (padd a0.a (((IntKind.wrap .i64 (((a0.n : Nat) : Int) - 1)) : Int).toNat * 2)) 0) ≠ some w.heap.size ∧ (∀ w3 : World, w3 = setP w0.drew.drew (padd (padd a0.a (((IntKind.wrap .i64 (((a0.n : Nat) : Int) - 1)) : Int).toNat * 2)) 0) [.int .i64 (IntKind.wrap .i64 (x2 + a1_0))] →
 R (.returned (.slice a0.a a0.n a0.c)) w3))))
 (∀ w4 : World, w4 = w0.drew.alloc (.cells #[.int .i64 a1_0, .int .i64 a1_1] 83) →
 AppPre 16 2 w4 ⟨a0.a, a0.n, a0.c⟩ 1 [.int .i64 a1_0, .int .i64 a1_1] ∧ ∀ (s5 : Sl) (w6 : World), AppRes 83 2 w4 ⟨a0.a, a0.n, a0.c⟩ 1 [.int .i64 a1_0, .int .i64 a1_1] s5 w6 → w6.heap[w.heap.size]? = w4.heap[w.heap.size]? ∧ w6.heap[w0.drew.heap.size]? = w4.heap[w0.drew.heap.size]? ∧ 
 R (.returned (.slice s5.a s5.n s5.c)) w6)))
 (∀ w7 : World, w7 = w0.drew.alloc (.cells #[.int .i64 a1_0, .int .i64 a1_1] 83) →
 AppPre 16 2 w7 ⟨a0.a, a0.n, a0.c⟩ 1 [.int .i64 a1_0, .int .i64 a1_1] ∧ ∀ (s8 : Sl) (w9 : World), AppRes 83 2 w7 ⟨a0.a, a0.n, a0.c⟩ 1 [.int .i64 a1_0, .int .i64 a1_1] s8 w9 → w9.heap[w.heap.size]? = w7.heap[w.heap.size]? ∧ w9.heap[w0.drew.heap.size]? = w7.heap[w0.drew.heap.size]? ∧ 
 R (.returned (.slice s8.a s8.n s8.c)) w9))
theorem runs_push.vc {a0 a1_0 a1_1 w} {R : Ending → World → Prop} (h : runs_push.pre a0 a1_0 a1_1 w R) : Calls Tryd.prog n_runs_push #[.slice a0.a a0.n a0.c, .agg #[.int .i64 a1_0, .int .i64 a1_1]] w R :=
  calls_of_eq (an := ⟨[], [], []⟩) (args := [.slice a0.a a0.n a0.c, .agg #[.int .i64 a1_0, .int .i64 a1_1]]) Tryd.noNG Tryd.mixed Tryd.func88 h (by kernel_rfl)

/- breccia/cell.Div  -/
def cell_Div.pre (a0 : Int) (a1 : Int) (w : World) (R : Ending → World → Prop) : Prop :=
 Br (decide ((a1 : Int) < 1))
 (R (.returned (.int .i64 0)) w)
 (AndL (nzC a1) (AndL (nzC a1) (Br (decide (((Int.tmod a0 a1) : Int) < 0))
 (R (.returned (.int .i64 (IntKind.wrap .i64 ((IntKind.wrap .i64 (Int.tdiv a0 a1)) - 1)))) w)
 (R (.returned (.int .i64 (IntKind.wrap .i64 (Int.tdiv a0 a1)))) w))))
theorem cell_Div.vc {a0 a1 w} {R : Ending → World → Prop} (h : cell_Div.pre a0 a1 w R) : Calls Tryd.prog n_cell_Div #[.int .i64 a0, .int .i64 a1] w R :=
  calls_of_eq (an := ⟨[], [], []⟩) (args := [.int .i64 a0, .int .i64 a1]) Tryd.noNG Tryd.mixed Tryd.func89 h (by kernel_rfl)

/- breccia/block.names  -/
def block_names.pre  (w : World) (R : Ending → World → Prop) : Prop :=
 ∀ w0 : World, w0 = w.alloc (.cells #[.string (ByteArray.mk #[]), .string (ByteArray.mk #[]), .string (ByteArray.mk #[]), .string (ByteArray.mk #[]), .string (ByteArray.mk #[]), .string (ByteArray.mk #[]), .string (ByteArray.mk #[]), .string (ByteArray.mk #[]), .string (ByteArray.mk #[]), .string (ByteArray.mk #[]), .string (ByteArray.mk #[]), .string (ByteArray.mk #[]), .string (ByteArray.mk #[]), .string (ByteArray.mk #[]), .string (ByteArray.mk #[]), .string (ByteArray.mk #[])] 121) →
 ∀ w1 : World, w1 = w0.alloc (.cells #[.string (ByteArray.mk #[]), .string (ByteArray.mk #[]), .string (ByteArray.mk #[]), .string (ByteArray.mk #[]), .string (ByteArray.mk #[]), .string (ByteArray.mk #[]), .string (ByteArray.mk #[]), .string (ByteArray.mk #[]), .string (ByteArray.mk #[]), .string (ByteArray.mk #[]), .string (ByteArray.mk #[]), .string (ByteArray.mk #[]), .string (ByteArray.mk #[]), .string (ByteArray.mk #[]), .string (ByteArray.mk #[]), .string (ByteArray.mk #[])] 121) →
 (true = true ∧ Wr w1 (some ⟨w0.heap.size, 0, none⟩) 16) ∧ (∀ w2 : World, w2 = setP w1 (some ⟨w0.heap.size, 0, none⟩) [.string (ByteArray.mk #[97, 105, 114]), .string (ByteArray.mk #[115, 116, 111, 110, 101]), .string (ByteArray.mk #[100, 105, 114, 116]), .string (ByteArray.mk #[115, 97, 110, 100]), .string (ByteArray.mk #[108, 97, 100, 100, 101, 114]), .string (ByteArray.mk #[103, 108, 97, 115, 115]), .string (ByteArray.mk #[]), .string (ByteArray.mk #[]), .string (ByteArray.mk #[]), .string (ByteArray.mk #[]), .string (ByteArray.mk #[]), .string (ByteArray.mk #[]), .string (ByteArray.mk #[]), .string (ByteArray.mk #[]), .string (ByteArray.mk #[]), .string (ByteArray.mk #[])] →
 ∃ I3 : Nat → Int → World → Prop,
 (∃ n4, I3 n4 (0) w2) ∧
 ∀ (n4 : Nat) (us5 : Nat → Value) (x6 : Int) (w7 : World), I3 n4 x6 w7 →
 Br (decide ((x6 : Int) < 8))
 (Calls Tryd.prog n_strconv_Itoa #[.int .i64 x6] w7 (fun e w9 => ∃ (t10 : ByteArray), e = .returned (.string t10) ∧ 
 ((((ByteArray.mk #[119, 97, 116, 101, 114])).size + (t10).size : Nat) : Int) ≤ IntKind.i64.max ∧ (0 : Int) ≤ (IntKind.wrap .i64 (8 + x6)) ∧ ((IntKind.wrap .i64 (8 + x6)) : Int) < ((16 : Nat) : Int) ∧ (true = true ∧ Wr w9 (padd (some ⟨w0.heap.size, 0, none⟩) (((IntKind.wrap .i64 (8 + x6)) : Int).toNat * 1)) 1) ∧ (∀ w11 : World, w11 = setP w9 (padd (some ⟨w0.heap.size, 0, none⟩) (((IntKind.wrap .i64 (8 + x6)) : Int).toNat * 1)) [.string ((ByteArray.mk #[119, 97, 116, 101, 114]) ++ t10)] →
 ∃ n8, n8 < n4 ∧ I3 n8 ((IntKind.wrap .i64 (x6 + 1))) w11)))
 (∃ (t12 : ByteArray) (t13 : ByteArray) (t14 : ByteArray) (t15 : ByteArray) (t16 : ByteArray) (t17 : ByteArray) (t18 : ByteArray) (t19 : ByteArray) (t20 : ByteArray) (t21 : ByteArray) (t22 : ByteArray) (t23 : ByteArray) (t24 : ByteArray) (t25 : ByteArray) (t26 : ByteArray) (t27 : ByteArray), LoadL w7 (some ⟨w0.heap.size, 0, none⟩) 0 [.string t12, .string t13, .string t14, .string t15, .string t16, .string t17, .string t18, .string t19, .string t20, .string t21, .string t22, .string t23, .string t24, .string t25, .string t26, .string t27] ∧
 (true = true ∧ Wr w7 (some ⟨w.heap.size, 0, none⟩) 16) ∧ (∀ w28 : World, w28 = setP w7 (some ⟨w.heap.size, 0, none⟩) [.string t12, .string t13, .string t14, .string t15, .string t16, .string t17, .string t18, .string t19, .string t20, .string t21, .string t22, .string t23, .string t24, .string t25, .string t26, .string t27] →
 ∃ (t29 : ByteArray) (t30 : ByteArray) (t31 : ByteArray) (t32 : ByteArray) (t33 : ByteArray) (t34 : ByteArray) (t35 : ByteArray) (t36 : ByteArray) (t37 : ByteArray) (t38 : ByteArray) (t39 : ByteArray) (t40 : ByteArray) (t41 : ByteArray) (t42 : ByteArray) (t43 : ByteArray) (t44 : ByteArray), LoadL w28 (some ⟨w.heap.size, 0, none⟩) 0 [.string t29, .string t30, .string t31, .string t32, .string t33, .string t34, .string t35, .string t36, .string t37, .string t38, .string t39, .string t40, .string t41, .string t42, .string t43, .string t44] ∧
 R (.returned (.agg #[.string t29, .string t30, .string t31, .string t32, .string t33, .string t34, .string t35, .string t36, .string t37, .string t38, .string t39, .string t40, .string t41, .string t42, .string t43, .string t44])) w28)))
theorem block_names.vc {w} {R : Ending → World → Prop} (h : block_names.pre  w R) : Calls Tryd.prog n_block_names #[] w R :=
  calls_of_eq (an := ⟨[(3, ⟨[(4, .int .i64)], [], []⟩)], [], []⟩) (args := []) Tryd.noNG Tryd.mixed Tryd.func90 h (by kernel_rfl)

/- breccia/brecciaref10.Ground  -/
def ref10_Ground.pre (a0 : Int) (a1 : Int) (a2 : Int) (w : World) (R : Ending → World → Prop) : Prop :=
 ∃ I0 : Nat → Int → Int → World → Prop,
 (∃ n1, I0 n1 (0) (0) w) ∧
 ∀ (n1 : Nat) (us2 : Nat → Value) (x3 : Int) (x4 : Int) (w5 : World), I0 n1 x3 x4 w5 →
 Br (decide ((x3 : Int) < 2))
 (∃ I7 : Nat → Int → Int → World → Prop,
 (∃ n8, I7 n8 (0) (x4) w5) ∧
 ∀ (n8 : Nat) (us9 : Nat → Value) (x10 : Int) (x11 : Int) (w12 : World), I7 n8 x10 x11 w12 →
 Br (decide ((x10 : Int) < 2))
 (Calls Tryd.prog n_ref03_Mod #[.int .i64 a1, .int .i64 8] w12 (fun e w14 => ∃ (x15 : Int), e = .returned (.int .i64 x15) ∧ 
 Calls Tryd.prog n_ref03_Mod #[.int .i64 a2, .int .i64 8] w14 (fun e w16 => ∃ (x17 : Int), e = .returned (.int .i64 x17) ∧ 
 Br ((x3 : Int) == 0)
 (Br ((x10 : Int) == 0)
 (Calls Tryd.prog n_ref03_Div #[.int .i64 a1, .int .i64 8] w16 (fun e w18 => ∃ (x19 : Int), e = .returned (.int .i64 x19) ∧ 
 Calls Tryd.prog n_ref03_Div #[.int .i64 a2, .int .i64 8] w18 (fun e w20 => ∃ (x21 : Int), e = .returned (.int .i64 x21) ∧ 
 Calls Tryd.prog n_ref10_Hash #[.int .i64 a0, .int .i64 (IntKind.wrap .i64 (x19 + x3)), .int .i64 (IntKind.wrap .i64 (x21 + x10))] w20 (fun e w22 => ∃ (x23 : Int), e = .returned (.int .u64 x23) ∧ 
 ∃ n13, n13 < n8 ∧ I7 n13 ((IntKind.wrap .i64 (x10 + 1))) ((IntKind.wrap .i64 (x11 + (IntKind.wrap .i64 ((IntKind.wrap .i64 ((IntKind.wrap .i64 (8 - x15)) * (IntKind.wrap .i64 (8 - x17)))) * (IntKind.wrap .i64 (Int.tmod x23 9))))))) w22))))
 (Calls Tryd.prog n_ref03_Div #[.int .i64 a1, .int .i64 8] w16 (fun e w24 => ∃ (x25 : Int), e = .returned (.int .i64 x25) ∧ 
 Calls Tryd.prog n_ref03_Div #[.int .i64 a2, .int .i64 8] w24 (fun e w26 => ∃ (x27 : Int), e = .returned (.int .i64 x27) ∧ 
 Calls Tryd.prog n_ref10_Hash #[.int .i64 a0, .int .i64 (IntKind.wrap .i64 (x25 + x3)), .int .i64 (IntKind.wrap .i64 (x27 + x10))] w26 (fun e w28 => ∃ (x29 : Int), e = .returned (.int .u64 x29) ∧ 
 ∃ n13, n13 < n8 ∧ I7 n13 ((IntKind.wrap .i64 (x10 + 1))) ((IntKind.wrap .i64 (x11 + (IntKind.wrap .i64 ((IntKind.wrap .i64 ((IntKind.wrap .i64 (8 - x15)) * x17)) * (IntKind.wrap .i64 (Int.tmod x29 9))))))) w28)))))
 (Br ((x10 : Int) == 0)
 (Calls Tryd.prog n_ref03_Div #[.int .i64 a1, .int .i64 8] w16 (fun e w30 => ∃ (x31 : Int), e = .returned (.int .i64 x31) ∧ 
 Calls Tryd.prog n_ref03_Div #[.int .i64 a2, .int .i64 8] w30 (fun e w32 => ∃ (x33 : Int), e = .returned (.int .i64 x33) ∧ 
 Calls Tryd.prog n_ref10_Hash #[.int .i64 a0, .int .i64 (IntKind.wrap .i64 (x31 + x3)), .int .i64 (IntKind.wrap .i64 (x33 + x10))] w32 (fun e w34 => ∃ (x35 : Int), e = .returned (.int .u64 x35) ∧ 
 ∃ n13, n13 < n8 ∧ I7 n13 ((IntKind.wrap .i64 (x10 + 1))) ((IntKind.wrap .i64 (x11 + (IntKind.wrap .i64 ((IntKind.wrap .i64 (x15 * (IntKind.wrap .i64 (8 - x17)))) * (IntKind.wrap .i64 (Int.tmod x35 9))))))) w34))))
 (Calls Tryd.prog n_ref03_Div #[.int .i64 a1, .int .i64 8] w16 (fun e w36 => ∃ (x37 : Int), e = .returned (.int .i64 x37) ∧ 
 Calls Tryd.prog n_ref03_Div #[.int .i64 a2, .int .i64 8] w36 (fun e w38 => ∃ (x39 : Int), e = .returned (.int .i64 x39) ∧ 
 Calls Tryd.prog n_ref10_Hash #[.int .i64 a0, .int .i64 (IntKind.wrap .i64 (x37 + x3)), .int .i64 (IntKind.wrap .i64 (x39 + x10))] w38 (fun e w40 => ∃ (x41 : Int), e = .returned (.int .u64 x41) ∧ 
 ∃ n13, n13 < n8 ∧ I7 n13 ((IntKind.wrap .i64 (x10 + 1))) ((IntKind.wrap .i64 (x11 + (IntKind.wrap .i64 ((IntKind.wrap .i64 (x15 * x17)) * (IntKind.wrap .i64 (Int.tmod x41 9))))))) w40))))))))
 (∃ n6, n6 < n1 ∧ I0 n6 ((IntKind.wrap .i64 (x3 + 1))) (x11) w12))
 (R (.returned (.int .i64 (IntKind.wrap .i64 (6 + (IntKind.wrap .i64 (Int.tdiv x4 64)))))) w5)
theorem ref10_Ground.vc {a0 a1 a2 w} {R : Ending → World → Prop} (h : ref10_Ground.pre a0 a1 a2 w R) : Calls Tryd.prog n_ref10_Ground #[.int .i64 a0, .int .i64 a1, .int .i64 a2] w R :=
  calls_of_eq (an := ⟨[(6, ⟨[(9, .int .i64), (7, .int .i64)], [], []⟩), (3, ⟨[(8, .int .i64), (7, .int .i64)], [], []⟩)], [], []⟩) (args := [.int .i64 a0, .int .i64 a1, .int .i64 a2]) Tryd.noNG Tryd.mixed Tryd.func91 h (by kernel_rfl)

/- breccia/brecciaref03.Div  -/
def ref03_Div.pre (a0 : Int) (a1 : Int) (w : World) (R : Ending → World → Prop) : Prop :=
 Br (decide ((a1 : Int) < 1))
 (R (.returned (.int .i64 0)) w)
 (Calls Tryd.prog n_ref01_Div #[.int .i64 a0, .int .i64 a1] w (fun e w0 => ∃ (x1 : Int), e = .returned (.int .i64 x1) ∧ 
 R (.returned (.int .i64 x1)) w0))
theorem ref03_Div.vc {a0 a1 w} {R : Ending → World → Prop} (h : ref03_Div.pre a0 a1 w R) : Calls Tryd.prog n_ref03_Div #[.int .i64 a0, .int .i64 a1] w R :=
  calls_of_eq (an := ⟨[], [], []⟩) (args := [.int .i64 a0, .int .i64 a1]) Tryd.noNG Tryd.mixed Tryd.func92 h (by kernel_rfl)

/- breccia/gen.Ground$1  -/
def gen_Ground_1.pre (a0 : Int) (a1 : Int) (a2 : Int) (c0 : Addr) (w : World) (R : Ending → World → Prop) : Prop :=
 ∃ (x0 : Int), ld w (some c0) = some (.int .i64 x0) ∧
 Calls Tryd.prog n_gen_Hash #[.int .i64 x0, .int .i64 a0, .int .i64 a1] w (fun e w1 => ∃ (x2 : Int), e = .returned (.int .u64 x2) ∧ 
 R (.returned (.int .i64 (IntKind.wrap .i64 ((IntKind.wrap .i64 (Int.tmod x2 9)) * a2)))) w1)
theorem gen_Ground_1.vc {a0 a1 a2 c0 w} {R : Ending → World → Prop} (h : gen_Ground_1.pre a0 a1 a2 c0 w R) : Calls Tryd.prog n_gen_Ground_1 #[.int .i64 a0, .int .i64 a1, .int .i64 a2, .pointer (some c0)] w R :=
  calls_of_eq (an := ⟨[], [], []⟩) (args := [.int .i64 a0, .int .i64 a1, .int .i64 a2, .pointer (some c0)]) Tryd.noNG Tryd.mixed Tryd.func93 h (by kernel_rfl)

/- breccia/gen.Hash  -/
def gen_Hash.pre (a0 : Int) (a1 : Int) (a2 : Int) (w : World) (R : Ending → World → Prop) : Prop :=
 R (.returned (.int .u64 (bXor .u64 (IntKind.wrap .u64 ((bXor .u64 (IntKind.wrap .u64 ((IntKind.wrap .u64 ((IntKind.wrap .u64 ((IntKind.wrap .u64 a0) * 11400714819323198485)) + (IntKind.wrap .u64 ((IntKind.wrap .u64 a1) * 14029467366897019727)))) + (IntKind.wrap .u64 ((IntKind.wrap .u64 a2) * 1609587929392839161)))) (((IntKind.wrap .u64 ((IntKind.wrap .u64 ((IntKind.wrap .u64 ((IntKind.wrap .u64 a0) * 11400714819323198485)) + (IntKind.wrap .u64 ((IntKind.wrap .u64 a1) * 14029467366897019727)))) + (IntKind.wrap .u64 ((IntKind.wrap .u64 a2) * 1609587929392839161)))) : Int).fdiv (2 ^ (min (29 : Int).toNat 64)))) * 13787848793156543929)) (((IntKind.wrap .u64 ((bXor .u64 (IntKind.wrap .u64 ((IntKind.wrap .u64 ((IntKind.wrap .u64 ((IntKind.wrap .u64 a0) * 11400714819323198485)) + (IntKind.wrap .u64 ((IntKind.wrap .u64 a1) * 14029467366897019727)))) + (IntKind.wrap .u64 ((IntKind.wrap .u64 a2) * 1609587929392839161)))) (((IntKind.wrap .u64 ((IntKind.wrap .u64 ((IntKind.wrap .u64 ((IntKind.wrap .u64 a0) * 11400714819323198485)) + (IntKind.wrap .u64 ((IntKind.wrap .u64 a1) * 14029467366897019727)))) + (IntKind.wrap .u64 ((IntKind.wrap .u64 a2) * 1609587929392839161)))) : Int).fdiv (2 ^ (min (29 : Int).toNat 64)))) * 13787848793156543929)) : Int).fdiv (2 ^ (min (32 : Int).toNat 64)))))) w
theorem gen_Hash.vc {a0 a1 a2 w} {R : Ending → World → Prop} (h : gen_Hash.pre a0 a1 a2 w R) : Calls Tryd.prog n_gen_Hash #[.int .i64 a0, .int .i64 a1, .int .i64 a2] w R :=
  calls_of_eq (an := ⟨[], [], []⟩) (args := [.int .i64 a0, .int .i64 a1, .int .i64 a2]) Tryd.noNG Tryd.mixed Tryd.func94 h (by kernel_rfl)

/- strconv.Itoa  -/
def strconv_Itoa.pre (a0 : Int) (w : World) (R : Ending → World → Prop) : Prop :=
 Calls Tryd.prog n_internal_strconv_Itoa #[.int .i64 a0] w (fun e w0 => ∃ (t1 : ByteArray), e = .returned (.string t1) ∧ 
 R (.returned (.string t1)) w0)
theorem strconv_Itoa.vc {a0 w} {R : Ending → World → Prop} (h : strconv_Itoa.pre a0 w R) : Calls Tryd.prog n_strconv_Itoa #[.int .i64 a0] w R :=
  calls_of_eq (an := ⟨[], [], []⟩) (args := [.int .i64 a0]) Tryd.noNG Tryd.mixed Tryd.func95 h (by kernel_rfl)

/- breccia/brecciaref10.Hash  -/
def ref10_Hash.pre (a0 : Int) (a1 : Int) (a2 : Int) (w : World) (R : Ending → World → Prop) : Prop :=
 R (.returned (.int .u64 (bXor .u64 (IntKind.wrap .u64 ((bXor .u64 (IntKind.wrap .u64 ((IntKind.wrap .u64 ((IntKind.wrap .u64 ((IntKind.wrap .u64 a0) * 11400714819323198485)) + (IntKind.wrap .u64 ((IntKind.wrap .u64 a1) * 14029467366897019727)))) + (IntKind.wrap .u64 ((IntKind.wrap .u64 a2) * 1609587929392839161)))) (IntKind.wrap .u64 (Int.tdiv (IntKind.wrap .u64 ((IntKind.wrap .u64 ((IntKind.wrap .u64 ((IntKind.wrap .u64 a0) * 11400714819323198485)) + (IntKind.wrap .u64 ((IntKind.wrap .u64 a1) * 14029467366897019727)))) + (IntKind.wrap .u64 ((IntKind.wrap .u64 a2) * 1609587929392839161)))) 536870912))) * 13787848793156543929)) (IntKind.wrap .u64 (Int.tdiv (IntKind.wrap .u64 ((bXor .u64 (IntKind.wrap .u64 ((IntKind.wrap .u64 ((IntKind.wrap .u64 ((IntKind.wrap .u64 a0) * 11400714819323198485)) + (IntKind.wrap .u64 ((IntKind.wrap .u64 a1) * 14029467366897019727)))) + (IntKind.wrap .u64 ((IntKind.wrap .u64 a2) * 1609587929392839161)))) (IntKind.wrap .u64 (Int.tdiv (IntKind.wrap .u64 ((IntKind.wrap .u64 ((IntKind.wrap .u64 ((IntKind.wrap .u64 a0) * 11400714819323198485)) + (IntKind.wrap .u64 ((IntKind.wrap .u64 a1) * 14029467366897019727)))) + (IntKind.wrap .u64 ((IntKind.wrap .u64 a2) * 1609587929392839161)))) 536870912))) * 13787848793156543929)) 4294967296))))) w
theorem ref10_Hash.vc {a0 a1 a2 w} {R : Ending → World → Prop} (h : ref10_Hash.pre a0 a1 a2 w R) : Calls Tryd.prog n_ref10_Hash #[.int .i64 a0, .int .i64 a1, .int .i64 a2] w R :=
  calls_of_eq (an := ⟨[], [], []⟩) (args := [.int .i64 a0, .int .i64 a1, .int .i64 a2]) Tryd.noNG Tryd.mixed Tryd.func96 h (by kernel_rfl)

/- breccia/brecciaref01.Div  -/
def ref01_Div.pre (a0 : Int) (a1 : Int) (w : World) (R : Ending → World → Prop) : Prop :=
 AndL (nzC a1) (Br (decide (((IntKind.wrap .i64 ((IntKind.wrap .i64 (Int.tdiv a0 a1)) * a1)) : Int) > a0))
 (R (.returned (.int .i64 (IntKind.wrap .i64 ((IntKind.wrap .i64 (Int.tdiv a0 a1)) - 1)))) w)
 (R (.returned (.int .i64 (IntKind.wrap .i64 (Int.tdiv a0 a1)))) w))
theorem ref01_Div.vc {a0 a1 w} {R : Ending → World → Prop} (h : ref01_Div.pre a0 a1 w R) : Calls Tryd.prog n_ref01_Div #[.int .i64 a0, .int .i64 a1] w R :=
  calls_of_eq (an := ⟨[], [], []⟩) (args := [.int .i64 a0, .int .i64 a1]) Tryd.noNG Tryd.mixed Tryd.func97 h (by kernel_rfl)

/- internal/strconv.Itoa  -/
def internal_strconv_Itoa.pre (a0 : Int) (w : World) (R : Ending → World → Prop) : Prop :=
 Calls Tryd.prog n_internal_strconv_FormatInt #[.int .i64 a0, .int .i64 10] w (fun e w0 => ∃ (t1 : ByteArray), e = .returned (.string t1) ∧ 
 R (.returned (.string t1)) w0)
theorem internal_strconv_Itoa.vc {a0 w} {R : Ending → World → Prop} (h : internal_strconv_Itoa.pre a0 w R) : Calls Tryd.prog n_internal_strconv_Itoa #[.int .i64 a0] w R :=
  calls_of_eq (an := ⟨[], [], []⟩) (args := [.int .i64 a0]) Tryd.noNG Tryd.mixed Tryd.func98 h (by kernel_rfl)

/- internal/strconv.FormatInt UNSUPPORTED: bad itoa.go:40 -/
def internal_strconv_FormatInt.pre (a0 : Int) (a1 : Int) (w : World) (R : Ending → World → Prop) : Prop :=
 Br ((a1 : Int) == 10)
 (Br (decide ((0 : Int) ≤ a0))
 (Br (decide ((a0 : Int) < 100))
 (Calls Tryd.prog n_internal_strconv_small #[.int .i64 a0] w (fun e w0 => ∃ (t1 : ByteArray), e = .returned (.string t1) ∧ 
 R (.returned (.string t1)) w0))
 (∀ w2 : World, w2 = w.alloc (.cells #[.int .u8 0, .int .u8 0, .int .u8 0, .int .u8 0, .int .u8 0, .int .u8 0, .int .u8 0, .int .u8 0, .int .u8 0, .int .u8 0, .int .u8 0, .int .u8 0, .int .u8 0, .int .u8 0, .int .u8 0, .int .u8 0, .int .u8 0, .int .u8 0, .int .u8 0, .int .u8 0, .int .u8 0, .int .u8 0, .int .u8 0, .int .u8 0] 127) →
 Br (decide ((a0 : Int) < 0))
 (Calls Tryd.prog 101 #[.int .u64 (IntKind.wrap .u64 (0 - (IntKind.wrap .u64 a0)))] w2 (fun e w3 => ∃ (x4 : Int), e = .returned (.int .i64 x4) ∧ 
 False))
 (Calls Tryd.prog 101 #[.int .u64 (IntKind.wrap .u64 a0)] w2 (fun e w5 => ∃ (x6 : Int), e = .returned (.int .i64 x6) ∧ 
 False))))
 (∀ w7 : World, w7 = w.alloc (.cells #[.int .u8 0, .int .u8 0, .int .u8 0, .int .u8 0, .int .u8 0, .int .u8 0, .int .u8 0, .int .u8 0, .int .u8 0, .int .u8 0, .int .u8 0, .int .u8 0, .int .u8 0, .int .u8 0, .int .u8 0, .int .u8 0, .int .u8 0, .int .u8 0, .int .u8 0, .int .u8 0, .int .u8 0, .int .u8 0, .int .u8 0, .int .u8 0] 127) →
 Br (decide ((a0 : Int) < 0))
 (Calls Tryd.prog 101 #[.int .u64 (IntKind.wrap .u64 (0 - (IntKind.wrap .u64 a0)))] w7 (fun e w8 => ∃ (x9 : Int), e = .returned (.int .i64 x9) ∧ 
 False))
 (Calls Tryd.prog 101 #[.int .u64 (IntKind.wrap .u64 a0)] w7 (fun e w10 => ∃ (x11 : Int), e = .returned (.int .i64 x11) ∧ 
 False))))
 (Calls Tryd.prog 103 #[.slice none 0 0, .int .u64 (IntKind.wrap .u64 a0), .int .i64 a1, .bool (decide ((a0 : Int) < 0)), .bool false] w (fun e w12 => ∃ (s13 : Sl) (t14 : ByteArray), e = .returned (.tuple #[.slice s13.a s13.n s13.c, .string t14]) ∧ 
 R (.returned (.string t14)) w12))
theorem internal_strconv_FormatInt.vc {a0 a1 w} {R : Ending → World → Prop} (h : internal_strconv_FormatInt.pre a0 a1 w R) : Calls Tryd.prog n_internal_strconv_FormatInt #[.int .i64 a0, .int .i64 a1] w R :=
  calls_of_eq (an := ⟨[], [], []⟩) (args := [.int .i64 a0, .int .i64 a1]) Tryd.noNG Tryd.mixed Tryd.func99 h (by kernel_rfl)

/- internal/strconv.small  -/
def internal_strconv_small.pre (a0 : Int) (w : World) (R : Ending → World → Prop) : Prop :=
 Br (decide ((a0 : Int) < 10))
 ((0 : Int) ≤ (IntKind.wrap .i64 (a0 + 1)) ∧ (IntKind.wrap .i64 (a0 + 1)) ≤ ((((ByteArray.mk #[48, 49, 50, 51, 52, 53, 54, 55, 56, 57, 97, 98, 99, 100, 101, 102, 103, 104, 105, 106, 107, 108, 109, 110, 111, 112, 113, 114, 115, 116, 117, 118, 119, 120, 121, 122])).size : Nat) : Int) ∧ (0 : Int) ≤ a0 ∧ (a0 : Int) ≤ (IntKind.wrap .i64 (a0 + 1)) ∧ R (.returned (.string (((ByteArray.mk #[48, 49, 50, 51, 52, 53, 54, 55, 56, 57, 97, 98, 99, 100, 101, 102, 103, 104, 105, 106, 107, 108, 109, 110, 111, 112, 113, 114, 115, 116, 117, 118, 119, 120, 121, 122])).extract ((a0 : Int).toNat) (((IntKind.wrap .i64 (a0 + 1)) : Int).toNat)))) w)
 ((0 : Int) ≤ (IntKind.wrap .i64 ((IntKind.wrap .i64 (a0 * 2)) + 2)) ∧ (IntKind.wrap .i64 ((IntKind.wrap .i64 (a0 * 2)) + 2)) ≤ ((((ByteArray.mk #[48, 48, 48, 49, 48, 50, 48, 51, 48, 52, 48, 53, 48, 54, 48, 55, 48, 56, 48, 57, 49, 48, 49, 49, 49, 50, 49, 51, 49, 52, 49, 53, 49, 54, 49, 55, 49, 56, 49, 57, 50, 48, 50, 49, 50, 50, 50, 51, 50, 52, 50, 53, 50, 54, 50, 55, 50, 56, 50, 57, 51, 48, 51, 49, 51, 50, 51, 51, 51, 52, 51, 53, 51, 54, 51, 55, 51, 56, 51, 57, 52, 48, 52, 49, 52, 50, 52, 51, 52, 52, 52, 53, 52, 54, 52, 55, 52, 56, 52, 57, 53, 48, 53, 49, 53, 50, 53, 51, 53, 52, 53, 53, 53, 54, 53, 55, 53, 56, 53, 57, 54, 48, 54, 49, 54, 50, 54, 51, 54, 52, 54, 53, 54, 54, 54, 55, 54, 56, 54, 57, 55, 48, 55, 49, 55, 50, 55, 51, 55, 52, 55, 53, 55, 54, 55, 55, 55, 56, 55, 57, 56, 48, 56, 49, 56, 50, 56, 51, 56, 52, 56, 53, 56, 54, 56, 55, 56, 56, 56, 57, 57, 48, 57, 49, 57, 50, 57, 51, 57, 52, 57, 53, 57, 54, 57, 55, 57, 56, 57, 57])).size : Nat) : Int) ∧ (0 : Int) ≤ (IntKind.wrap .i64 (a0 * 2)) ∧ ((IntKind.wrap .i64 (a0 * 2)) : Int) ≤ (IntKind.wrap .i64 ((IntKind.wrap .i64 (a0 * 2)) + 2)) ∧ R (.returned (.string (((ByteArray.mk #[48, 48, 48, 49, 48, 50, 48, 51, 48, 52, 48, 53, 48, 54, 48, 55, 48, 56, 48, 57, 49, 48, 49, 49, 49, 50, 49, 51, 49, 52, 49, 53, 49, 54, 49, 55, 49, 56, 49, 57, 50, 48, 50, 49, 50, 50, 50, 51, 50, 52, 50, 53, 50, 54, 50, 55, 50, 56, 50, 57, 51, 48, 51, 49, 51, 50, 51, 51, 51, 52, 51, 53, 51, 54, 51, 55, 51, 56, 51, 57, 52, 48, 52, 49, 52, 50, 52, 51, 52, 52, 52, 53, 52, 54, 52, 55, 52, 56, 52, 57, 53, 48, 53, 49, 53, 50, 53, 51, 53, 52, 53, 53, 53, 54, 53, 55, 53, 56, 53, 57, 54, 48, 54, 49, 54, 50, 54, 51, 54, 52, 54, 53, 54, 54, 54, 55, 54, 56, 54, 57, 55, 48, 55, 49, 55, 50, 55, 51, 55, 52, 55, 53, 55, 54, 55, 55, 55, 56, 55, 57, 56, 48, 56, 49, 56, 50, 56, 51, 56, 52, 56, 53, 56, 54, 56, 55, 56, 56, 56, 57, 57, 48, 57, 49, 57, 50, 57, 51, 57, 52, 57, 53, 57, 54, 57, 55, 57, 56, 57, 57])).extract (((IntKind.wrap .i64 (a0 * 2)) : Int).toNat) (((IntKind.wrap .i64 ((IntKind.wrap .i64 (a0 * 2)) + 2)) : Int).toNat)))) w)
theorem internal_strconv_small.vc {a0 w} {R : Ending → World → Prop} (h : internal_strconv_small.pre a0 w R) : Calls Tryd.prog n_internal_strconv_small #[.int .i64 a0] w R :=
  calls_of_eq (an := ⟨[], [], []⟩) (args := [.int .i64 a0]) Tryd.noNG Tryd.mixed Tryd.func100 h (by kernel_rfl)

/- gosem.cut.vars  -/
def gosem_cut_vars.pre  (w : World) (R : Ending → World → Prop) : Prop :=
 (true = true ∧ Wr w (some ⟨1, 0, none⟩) 32) ∧ (∀ w0 : World, w0 = setP w (some ⟨1, 0, none⟩) [.int .u8 0, .int .u8 1, .int .u8 28, .int .u8 2, .int .u8 29, .int .u8 14, .int .u8 24, .int .u8 3, .int .u8 30, .int .u8 22, .int .u8 20, .int .u8 15, .int .u8 25, .int .u8 17, .int .u8 4, .int .u8 8, .int .u8 31, .int .u8 27, .int .u8 13, .int .u8 23, .int .u8 21, .int .u8 19, .int .u8 16, .int .u8 7, .int .u8 26, .int .u8 12, .int .u8 18, .int .u8 6, .int .u8 11, .int .u8 5, .int .u8 10, .int .u8 9] →
 (true = true ∧ Wr w0 (some ⟨2, 0, none⟩) 64) ∧ (∀ w1 : World, w1 = setP w0 (some ⟨2, 0, none⟩) [.int .u8 0, .int .u8 1, .int .u8 56, .int .u8 2, .int .u8 57, .int .u8 49, .int .u8 28, .int .u8 3, .int .u8 61, .int .u8 58, .int .u8 42, .int .u8 50, .int .u8 38, .int .u8 29, .int .u8 17, .int .u8 4, .int .u8 62, .int .u8 47, .int .u8 59, .int .u8 36, .int .u8 45, .int .u8 43, .int .u8 51, .int .u8 22, .int .u8 53, .int .u8 39, .int .u8 33, .int .u8 30, .int .u8 24, .int .u8 18, .int .u8 12, .int .u8 5, .int .u8 63, .int .u8 55, .int .u8 48, .int .u8 27, .int .u8 60, .int .u8 41, .int .u8 37, .int .u8 16, .int .u8 46, .int .u8 35, .int .u8 44, .int .u8 21, .int .u8 52, .int .u8 32, .int .u8 23, .int .u8 11, .int .u8 54, .int .u8 26, .int .u8 40, .int .u8 15, .int .u8 34, .int .u8 20, .int .u8 31, .int .u8 10, .int .u8 25, .int .u8 14, .int .u8 19, .int .u8 9, .int .u8 13, .int .u8 8, .int .u8 7, .int .u8 6] →
 (true = true ∧ Wr w1 (some ⟨0, 0, none⟩) 20) ∧ (∀ w2 : World, w2 = setP w1 (some ⟨0, 0, none⟩) [.int .u64 1, .int .u64 10, .int .u64 100, .int .u64 1000, .int .u64 10000, .int .u64 100000, .int .u64 1000000, .int .u64 10000000, .int .u64 100000000, .int .u64 1000000000, .int .u64 10000000000, .int .u64 100000000000, .int .u64 1000000000000, .int .u64 10000000000000, .int .u64 100000000000000, .int .u64 1000000000000000, .int .u64 10000000000000000, .int .u64 100000000000000000, .int .u64 1000000000000000000, .int .u64 10000000000000000000] →
 R (.returned (.tuple #[])) w2)))
theorem gosem_cut_vars.vc {w} {R : Ending → World → Prop} (h : gosem_cut_vars.pre  w R) : Calls Tryd.prog n_gosem_cut_vars #[] w R :=
  calls_of_eq (an := ⟨[], [], []⟩) (args := []) Tryd.noNG Tryd.mixed Tryd.func133 h (by kernel_rfl)


end Go.Proofs.YtfipllblcnahdaaDoor
