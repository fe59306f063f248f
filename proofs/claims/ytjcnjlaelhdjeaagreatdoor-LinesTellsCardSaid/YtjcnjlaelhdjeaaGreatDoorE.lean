import Derived.Test.YtjcnjlaelhdjeaaGreatDoorChecked
import Derived.KernelRfl
import Derived.Test.YtjcnjlaelhdjeaaGreatDoorC
set_option linter.all false
namespace Go.Proofs.YtjcnjlaelhdjeaaGreatDoor
open Go Go.Vc Go.RowKit Go.Proofs
set_option maxRecDepth 100000
set_option maxHeartbeats 8000000
set_option linter.unusedVariables false
theorem Tryz.noNG : NoNG Tryz.prog := ngB_ok (by kernel_rfl)
theorem Tryz.mixed : Tryz.prog.follows .mixedOrders = true := by kernel_rfl
abbrev n_cell_Index : FuncId := 296
abbrev n_block_May : FuncId := 189
abbrev n_chunk_Chunk_Set : FuncId := 352
abbrev n_table_Table_save : FuncId := 164
abbrev n_table_Table_out : FuncId := 165
abbrev n_store_New : FuncId := 242
abbrev n_slices_IndexFunc_item : FuncId := 227
abbrev n_table_Table_find_1 : FuncId := 228
abbrev n_chunk_place_Place : FuncId := 74
abbrev n_table_Table_room_1 : FuncId := 229
abbrev n_store_may : FuncId := 230
abbrev n_store_Store_of : FuncId := 231
abbrev n_code_Read : FuncId := 232
abbrev n_world_World_View : FuncId := 58
abbrev n_chunk_New : FuncId := 233
abbrev n_gen_Chunk : FuncId := 234
abbrev n_cell_Div : FuncId := 239
abbrev n_chunk_place_index : FuncId := 240
abbrev n_runs_At : FuncId := 241
abbrev n_block_Wet : FuncId := 262
abbrev n_table_Table_Here : FuncId := 42
abbrev n_ref04_May : FuncId := 56
abbrev n_cell_Mod : FuncId := 349
abbrev n_block_Name : FuncId := 170
abbrev n_runs_Set : FuncId := 376
abbrev n_chunk_Chunk_Bytes : FuncId := 236
abbrev n_disk_New : FuncId := 297
abbrev n_disk_Disk_Get : FuncId := 284
abbrev n_store_Read : FuncId := 285
abbrev n_code_Digits : FuncId := 286
abbrev n_runs_May : FuncId := 287
abbrev n_slices_Clone_Run : FuncId := 288
abbrev n_gen_Cells : FuncId := 289
abbrev n_runs_Of : FuncId := 290
abbrev n_slices_Clip_int : FuncId := 291
abbrev n_block_names : FuncId := 238
abbrev n_runs_Len : FuncId := 347
abbrev n_runs_Fill : FuncId := 389
abbrev n_code_Write : FuncId := 295
abbrev n_ref01_Around : FuncId := 12
abbrev n_disk_Disk_now : FuncId := 333
abbrev n_slices_Clone_byte : FuncId := 334
abbrev n_crc_Take : FuncId := 335
abbrev n_gen_Cells_1 : FuncId := 337
abbrev n_cell_From : FuncId := 338
abbrev n_gen_Ground : FuncId := 339
abbrev n_gen_of : FuncId := 340
abbrev n_runs_push : FuncId := 341
abbrev n_strconv_Itoa : FuncId := 224
abbrev n_runs_join : FuncId := 395
abbrev n_runs_Cut : FuncId := 396
abbrev n_runs_Make : FuncId := 397
abbrev n_code_Number : FuncId := 348
abbrev n_maps_Clone_byte : FuncId := 369
abbrev n_gen_Ground_1 : FuncId := 371
abbrev n_gen_Hash : FuncId := 372
abbrev n_internal_strconv_Itoa : FuncId := 282
abbrev n_internal_strconv_FormatInt : FuncId := 331
abbrev n_internal_strconv_small : FuncId := 364
abbrev n_world_World_Set : FuncId := 250
abbrev n_world_New : FuncId := 115
abbrev n_world_World_Table : FuncId := 40
abbrev n_table_Table_Load : FuncId := 88
abbrev n_table_Table_At : FuncId := 113
abbrev n_ref04_Good : FuncId := 17
abbrev n_table_Table_Set : FuncId := 307
abbrev n_table_New : FuncId := 176
abbrev n_table_Id : FuncId := 157
abbrev n_table_Table_find : FuncId := 158
abbrev n_table_Table_touch : FuncId := 159
abbrev n_table_Table_room : FuncId := 160
abbrev n_store_Store_Load : FuncId := 161
abbrev n_chunk_Read : FuncId := 162
abbrev n_chunk_Make : FuncId := 163
abbrev n_cell_Chunk : FuncId := 172
abbrev n_chunk_Chunk_At : FuncId := 173
abbrev n_block_Falls : FuncId := 222
abbrev n_block_Solid : FuncId := 187
def cell_Index.pre (a0_0 : Int) (a0_1 : Int) (a0_2 : Int) (w : World) (R : Ending → World → Prop) : Prop :=
 ∀ w0 : World, w0 = w.alloc (.cells #[.int .i64 a0_0, .int .i64 a0_1, .int .i64 a0_2] 23) →
 Br (decide ((a0_1 : Int) < 0))
 (R (.returned (.tuple #[.int .i64 0, .bool false])) w0)
 (Br (decide ((a0_1 : Int) ≥ 32))
 (R (.returned (.tuple #[.int .i64 0, .bool false])) w0)
 (Calls Tryz.prog n_cell_Mod #[.int .i64 a0_2, .int .i64 16] w0.drew (fun e w1 => ∃ (x2 : Int), e = .returned (.int .i64 x2) ∧ w1.heap[w.heap.size]? = w0.drew.heap[w.heap.size]? ∧
 LoadL w1 (some ⟨w.heap.size, 0, none⟩) 0 [.int .i64 a0_0] ∧ LoadL w1 (some ⟨w.heap.size, 1, none⟩) 0 [.int .i64 a0_1] ∧ Calls Tryz.prog n_cell_Mod #[.int .i64 a0_0, .int .i64 16] w1 (fun e w3 => ∃ (x4 : Int), e = .returned (.int .i64 x4) ∧ w3.heap[w.heap.size]? = w1.heap[w.heap.size]? ∧
 LoadL w3 (some ⟨w.heap.size, 1, none⟩) 0 [.int .i64 a0_1] ∧ R (.returned (.tuple #[.int .i64 (IntKind.wrap .i64 ((IntKind.wrap .i64 ((IntKind.wrap .i64 ((IntKind.wrap .i64 (a0_1 * 16)) + x2)) * 16)) + x4)), .bool true])) w3))))
theorem cell_Index.vc {a0_0 a0_1 a0_2 w} {R : Ending → World → Prop} (h : cell_Index.pre a0_0 a0_1 a0_2 w R) : Calls Tryz.prog n_cell_Index #[.agg #[.int .i64 a0_0, .int .i64 a0_1, .int .i64 a0_2]] w R :=
 calls_of_eq (an := ⟨[], [], []⟩) (args := [.agg #[.int .i64 a0_0, .int .i64 a0_1, .int .i64 a0_2]]) Tryz.noNG Tryz.mixed Tryz.func296 h (by kernel_rfl)
def block_May.pre (a0 : Int) (w : World) (R : Ending → World → Prop) : Prop :=
 Calls Tryz.prog n_block_Name #[.int .i64 a0] w (fun e w0 => ∃ (t1 : ByteArray), e = .returned (.string t1) ∧
 R (.returned (.bool (!strEq t1 (ByteArray.mk #[])))) w0)
theorem block_May.vc {a0 w} {R : Ending → World → Prop} (h : block_May.pre a0 w R) : Calls Tryz.prog n_block_May #[.int .i64 a0] w R :=
 calls_of_eq (an := ⟨[], [], []⟩) (args := [.int .i64 a0]) Tryz.noNG Tryz.mixed Tryz.func189 h (by kernel_rfl)
def chunk_Chunk_Set.pre (a0 : Addr) (a1_0 : Int) (a1_1 : Int) (a1_2 : Int) (a2 : Int) (w : World) (R : Ending → World → Prop) : Prop :=
 ∀ w0 : World, w0 = w.alloc (.cells #[.int .i64 a1_0, .int .i64 a1_1, .int .i64 a1_2] 23) →
 ∃ (x1 : Int) (x2 : Int), LoadL w0.drew (padd (some a0) 0) 0 [.int .i64 x1, .int .i64 x2] ∧
 Calls Tryz.prog n_chunk_place_index #[.agg #[.int .i64 x1, .int .i64 x2], .agg #[.int .i64 a1_0, .int .i64 a1_1, .int .i64 a1_2]] w0.drew (fun e w3 => ∃ (x4 : Int) (b5 : Bool), e = .returned (.tuple #[.int .i64 x4, .bool b5]) ∧ w3.heap[w.heap.size]? = w0.drew.heap[w.heap.size]? ∧
 Br (!b5)
 (R (.returned (.int .i64 5)) w3)
 (Calls Tryz.prog n_block_May #[.int .i64 a2] w3 (fun e w6 => ∃ (b7 : Bool), e = .returned (.bool b7) ∧ w6.heap[w.heap.size]? = w3.heap[w.heap.size]? ∧
 Br (!b7)
 (R (.returned (.int .i64 1)) w6)
 (∃ (s8 : Sl), ld w6 (padd (some a0) 2) = some (.slice s8.a s8.n s8.c) ∧
 Calls Tryz.prog n_runs_Set #[.slice s8.a s8.n s8.c, .int .i64 x4, .int .i64 a2] w6 (fun e w9 => ∃ (s10 : Sl), e = .returned (.slice s10.a s10.n s10.c) ∧ w9.heap[w.heap.size]? = w6.heap[w.heap.size]? ∧
 (true = true ∧ Wr w9 (padd (some a0) 2) 1) ∧ pblk (padd (some a0) 2) ≠ some w.heap.size ∧ (∀ w11 : World, w11 = setP w9 (padd (some a0) 2) [.slice s10.a s10.n s10.c] →
 R (.returned (.int .i64 0)) w11))))))
theorem chunk_Chunk_Set.vc {a0 a1_0 a1_1 a1_2 a2 w} {R : Ending → World → Prop} (h : chunk_Chunk_Set.pre a0 a1_0 a1_1 a1_2 a2 w R) : Calls Tryz.prog n_chunk_Chunk_Set #[.pointer (some a0), .agg #[.int .i64 a1_0, .int .i64 a1_1, .int .i64 a1_2], .int .i64 a2] w R :=
 calls_of_eq (an := ⟨[], [], []⟩) (args := [.pointer (some a0), .agg #[.int .i64 a1_0, .int .i64 a1_1, .int .i64 a1_2], .int .i64 a2]) Tryz.noNG Tryz.mixed Tryz.func352 h (by kernel_rfl)
def table_Table_save.pre (a0 : Addr) (a1 : Addr) (w : World) (R : Ending → World → Prop) : Prop :=
 ∃ (b0 : Bool), ld w (padd (some a1) 1) = some (.bool b0) ∧
 Br (!b0)
 (R (.returned (.int .i64 0)) w)
 (∃ (p1 : Option Addr), ld w (padd (some a1) 0) = some (.pointer p1) ∧
 AndL (nnC p1) (AndL (nnC p1) (∃ (x2 : Int) (x3 : Int), LoadL w (padd p1 0) 0 [.int .i64 x2, .int .i64 x3] ∧
 Calls Tryz.prog n_chunk_place_Place #[.agg #[.int .i64 x2, .int .i64 x3]] w (fun e w4 => ∃ (x5 : Int) (x6 : Int), e = .returned (.agg #[.int .i64 x5, .int .i64 x6]) ∧
 Calls Tryz.prog n_table_Id #[.agg #[.int .i64 x5, .int .i64 x6]] w4 (fun e w7 => ∃ (x8 : Int) (b9 : Bool), e = .returned (.tuple #[.int .i64 x8, .bool b9]) ∧
 ∃ (p10 : Option Addr), ld w7.drew (padd (some a0) 0) = some (.pointer p10) ∧
 ∃ (p11 : Option Addr), ld w7.drew (padd (some a1) 0) = some (.pointer p11) ∧
 Calls Tryz.prog n_chunk_Chunk_Bytes #[.pointer p11] w7.drew (fun e w12 => ∃ (s13 : Sl), e = .returned (.slice s13.a s13.n s13.c) ∧
 LoadL w12 (padd (some a0) 0) 0 [.pointer p10] ∧ Calls Tryz.prog 235 #[.pointer p10, .int .i64 x8, .slice s13.a s13.n s13.c] w12 (fun e w14 => ∃ (x15 : Int), e = .returned (.int .i64 x15) ∧
 (true = true ∧ Wr w14 (padd (some a1) 1) 1) ∧ (∀ w16 : World, w16 = setP w14 (padd (some a1) 1) [.bool ((x15 : Int) != 0)] →
 R (.returned (.int .i64 x15)) w16))))))))
theorem table_Table_save.vc {a0 a1 w} {R : Ending → World → Prop} (h : table_Table_save.pre a0 a1 w R) : Calls Tryz.prog n_table_Table_save #[.pointer (some a0), .pointer (some a1)] w R :=
 calls_of_eq (an := ⟨[], [], []⟩) (args := [.pointer (some a0), .pointer (some a1)]) Tryz.noNG Tryz.mixed Tryz.func164 h (by kernel_rfl)
def table_Table_out.pre (a0 : Addr) (a1 : Int) (w : World) (R : Ending → World → Prop) : Prop :=
 ∃ (s0 : Sl), ld w (padd (some a0) 3) = some (.slice s0.a s0.n s0.c) ∧
 InB s0.a a1 s0.n ∧ ∃ (p1 : Option Addr), ld w (padd s0.a ((a1 : Int).toNat * 1)) = some (.pointer p1) ∧
 ∃ (s2 : Sl), ld w.drew (padd (some a0) 3) = some (.slice s2.a s2.n s2.c) ∧
 (0 : Int) ≤ a1 ∧ a1 ≤ ((s2.c : Nat) : Int) ∧ (0 : Int) ≤ a1 ∧ (a1 : Int) ≤ a1 ∧ ∃ (s3 : Sl), ld w.drew (padd (some a0) 3) = some (.slice s3.a s3.n s3.c) ∧
 (0 : Int) ≤ (IntKind.wrap .i64 (a1 + 1)) ∧ (IntKind.wrap .i64 (a1 + 1)) ≤ ((s3.n : Nat) : Int) ∧ ∃ l4 : List Value, Rd w.drew (slBase s3.a (((IntKind.wrap .i64 (a1 + 1)) : Int).toNat) (s3.c) 1) l4 ∧ AppPre 8 1 w.drew ⟨(slBase s2.a (0) ((a1 : Int).toNat) 1), ((a1 : Int).toNat - 0), ((a1 : Int).toNat - 0)⟩ (s3.n - ((IntKind.wrap .i64 (a1 + 1)) : Int).toNat) l4 ∧ ∀ (s5 : Sl) (w6 : World), AppRes 137 1 w.drew ⟨(slBase s2.a (0) ((a1 : Int).toNat) 1), ((a1 : Int).toNat - 0), ((a1 : Int).toNat - 0)⟩ (s3.n - ((IntKind.wrap .i64 (a1 + 1)) : Int).toNat) l4 s5 w6 →
 LoadL w6 (padd (some a0) 3) 0 [.slice s3.a s3.n s3.c] ∧ LoadL w6 (padd (some a0) 3) 0 [.slice s2.a s2.n s2.c] ∧ (true = true ∧ Wr w6 (padd (some a0) 3) 1) ∧ (∀ w7 : World, w7 = setP w6 (padd (some a0) 3) [.slice s5.a s5.n s5.c] →
 R (.returned (.pointer p1)) w7)
theorem table_Table_out.vc {a0 a1 w} {R : Ending → World → Prop} (h : table_Table_out.pre a0 a1 w R) : Calls Tryz.prog n_table_Table_out #[.pointer (some a0), .int .i64 a1] w R :=
 calls_of_eq (an := ⟨[], [], []⟩) (args := [.pointer (some a0), .int .i64 a1]) Tryz.noNG Tryz.mixed Tryz.func165 h (by kernel_rfl)
def store_New.pre (a0 : Int) (w : World) (R : Ending → World → Prop) : Prop :=
 Calls Tryz.prog n_disk_New #[.int .i64 a0] w (fun e w0 => ∃ (p1 : Option Addr), e = .returned (.pointer p1) ∧
 ∀ w2 : World, w2 = w0.alloc (.cells #[.pointer p1] 177) →
 R (.returned (.pointer (some ⟨w0.heap.size, 0, none⟩))) w2)
theorem store_New.vc {a0 w} {R : Ending → World → Prop} (h : store_New.pre a0 w R) : Calls Tryz.prog n_store_New #[.int .i64 a0] w R :=
 calls_of_eq (an := ⟨[], [], []⟩) (args := [.int .i64 a0]) Tryz.noNG Tryz.mixed Tryz.func242 h (by kernel_rfl)
def slices_IndexFunc_item.pre (a0 : Sl) (a1 : Value) (w : World) (R : Ending → World → Prop) : Prop :=
 ∃ I0 : Nat → Int → World → Prop,
 (∃ n1, I0 n1 (0) w) ∧
 ∀ (n1 : Nat) (us2 : Nat → Value) (x3 : Int) (w4 : World), I0 n1 x3 w4 →
 Br (decide ((x3 : Int) < ((a0.n : Nat) : Int)))
 (InB a0.a x3 a0.n ∧ ∃ (p6 : Option Addr), ld w4 (padd a0.a ((x3 : Int).toNat * 1)) = some (.pointer p6) ∧
 callV Tryz.prog a1 [.pointer p6] w4 (fun e w7 => ∃ (b8 : Bool), e = .returned (.bool b8) ∧
 Br b8
 (R (.returned (.int .i64 x3)) w7)
 (∃ n5, n5 < n1 ∧ I0 n5 ((IntKind.wrap .i64 (x3 + 1))) w7)))
 (R (.returned (.int .i64 (-1))) w4)
theorem slices_IndexFunc_item.vc {a0 a1 w} {R : Ending → World → Prop} (h : slices_IndexFunc_item.pre a0 a1 w R) : Calls Tryz.prog n_slices_IndexFunc_item #[.slice a0.a a0.n a0.c, a1] w R :=
 calls_of_eq (an := ⟨[(2, ⟨[(8, .int .i64)], [], []⟩)], [], []⟩) (args := [.slice a0.a a0.n a0.c, a1]) Tryz.noNG Tryz.mixed Tryz.func227 h (by kernel_rfl)
def table_Table_find_1.pre (a0 : Addr) (c0 : Addr) (w : World) (R : Ending → World → Prop) : Prop :=
 ∃ (p0 : Option Addr), ld w.drew (padd (some a0) 0) = some (.pointer p0) ∧
 AndL (nnC p0) (AndL (nnC p0) (∃ (x1 : Int) (x2 : Int), LoadL w.drew (padd p0 0) 0 [.int .i64 x1, .int .i64 x2] ∧
 ∃ (x3 : Int) (x4 : Int), LoadL w.drew (some c0) 0 [.int .i64 x3, .int .i64 x4] ∧
 Calls Tryz.prog n_chunk_place_Place #[.agg #[.int .i64 x1, .int .i64 x2]] w.drew (fun e w5 => ∃ (x6 : Int) (x7 : Int), e = .returned (.agg #[.int .i64 x6, .int .i64 x7]) ∧
 LoadL w5 (some c0) 0 [.int .i64 x3, .int .i64 x4] ∧ LoadL w5 (padd (some a0) 0) 0 [.pointer p0] ∧ R (.returned (.bool (((x6 : Int) == x3) && ((x7 : Int) == x4)))) w5)))
theorem table_Table_find_1.vc {a0 c0 w} {R : Ending → World → Prop} (h : table_Table_find_1.pre a0 c0 w R) : Calls Tryz.prog n_table_Table_find_1 #[.pointer (some a0), .pointer (some c0)] w R :=
 calls_of_eq (an := ⟨[], [], []⟩) (args := [.pointer (some a0), .pointer (some c0)]) Tryz.noNG Tryz.mixed Tryz.func228 h (by kernel_rfl)
def chunk_place_Place.pre (a0_0 : Int) (a0_1 : Int) (w : World) (R : Ending → World → Prop) : Prop :=
 ∀ w0 : World, w0 = w.alloc (.cells #[.int .i64 a0_0, .int .i64 a0_1] 145) →
 ∀ w1 : World, w1 = w0.alloc (.cells #[.int .i64 0, .int .i64 0] 139) →
 ∀ w2 : World, w2 = w1.setRow w0.heap.size #[.int .i64 a0_0, .int .i64 a0_1] →
 R (.returned (.agg #[.int .i64 a0_0, .int .i64 a0_1])) w2
theorem chunk_place_Place.vc {a0_0 a0_1 w} {R : Ending → World → Prop} (h : chunk_place_Place.pre a0_0 a0_1 w R) : Calls Tryz.prog n_chunk_place_Place #[.agg #[.int .i64 a0_0, .int .i64 a0_1]] w R :=
 calls_of_eq (an := ⟨[], [], []⟩) (args := [.agg #[.int .i64 a0_0, .int .i64 a0_1]]) Tryz.noNG Tryz.mixed Tryz.func74 h (by kernel_rfl)
def table_Table_room_1.pre (a0 : Addr) (w : World) (R : Ending → World → Prop) : Prop :=
 ∃ (x0 : Int), ld w (padd (some a0) 2) = some (.int .i64 x0) ∧
 R (.returned (.bool ((x0 : Int) == 0))) w
theorem table_Table_room_1.vc {a0 w} {R : Ending → World → Prop} (h : table_Table_room_1.pre a0 w R) : Calls Tryz.prog n_table_Table_room_1 #[.pointer (some a0)] w R :=
 calls_of_eq (an := ⟨[], [], []⟩) (args := [.pointer (some a0)]) Tryz.noNG Tryz.mixed Tryz.func229 h (by kernel_rfl)
def store_may.pre (a0 : Int) (w : World) (R : Ending → World → Prop) : Prop :=
 Br (decide ((a0 : Int) ≥ 0))
 (R (.returned (.bool (decide ((a0 : Int) ≤ 1099511627776)))) w)
 (R (.returned (.bool false)) w)
theorem store_may.vc {a0 w} {R : Ending → World → Prop} (h : store_may.pre a0 w R) : Calls Tryz.prog n_store_may #[.int .i64 a0] w R :=
 calls_of_eq (an := ⟨[], [], []⟩) (args := [.int .i64 a0]) Tryz.noNG Tryz.mixed Tryz.func230 h (by kernel_rfl)
def code_Read.pre (a0 : Sl) (a1 : Int) (w : World) (R : Ending → World → Prop) : Prop :=
 ∃ I0 : Nat → Sl → Int → Int → Sl → World → Prop,
 (∃ n1, I0 n1 ⟨a0.a, a0.n, a0.c⟩ ((-1)) (a1) ⟨none, 0, 0⟩ w) ∧
 ∀ (n1 : Nat) (us2 : Nat → Value) (s3 : Sl) (x4 : Int) (x5 : Int) (s6 : Sl) (w7 : World), I0 n1 s3 x4 x5 s6 w7 →
 Br (decide ((((s3.n : Nat) : Int) : Int) > 0))
 (InB s3.a 0 s3.n ∧ ∃ (x9 : Int), ld w7 (padd s3.a ((0 : Int).toNat * 1)) = some (.int .u8 x9) ∧
 ∀ w10 : World, w10 = w7.alloc (.cells #[.int .i64 0, .int .i64 0] 322) →
 ∀ w11 : World, w11 = w10.setRow w7.heap.size #[.int .i64 0, .int .i64 (IntKind.wrap .i64 x9)] →
 Calls Tryz.prog n_block_May #[.int .i64 (IntKind.wrap .i64 x9)] w11 (fun e w12 => ∃ (b13 : Bool), e = .returned (.bool b13) ∧ w12.heap[w7.heap.size]? = w11.heap[w7.heap.size]? ∧
 Br (!b13)
 (R (.returned (.tuple #[.slice none 0 0, .int .i64 2])) w12)
 (Br (((IntKind.wrap .i64 x9) : Int) == x4)
 (R (.returned (.tuple #[.slice none 0 0, .int .i64 2])) w12)
 ((0 : Int) ≤ ((s3.n : Nat) : Int) ∧ ((s3.n : Nat) : Int) ≤ ((s3.c : Nat) : Int) ∧ (0 : Int) ≤ ((s3.n : Nat) : Int) ∧ (((s3.n : Nat) : Int) : Int) ≤ ((s3.n : Nat) : Int) ∧ (0 : Int) ≤ 1 ∧ (1 : Int) ≤ ((s3.n : Nat) : Int) ∧ Calls Tryz.prog n_code_Digits #[.slice (slBase s3.a ((1 : Int).toNat) ((((s3.n : Nat) : Int) : Int).toNat) 1) ((((s3.n : Nat) : Int) : Int).toNat - (1 : Int).toNat) ((((s3.n : Nat) : Int) : Int).toNat - (1 : Int).toNat)] w12 (fun e w14 => ∃ (x15 : Int) (x16 : Int) (x17 : Int), e = .returned (.tuple #[.int .i64 x15, .int .i64 x16, .int .i64 x17]) ∧ w14.heap[w7.heap.size]? = w12.heap[w7.heap.size]? ∧
 Br ((x17 : Int) != 0)
 (R (.returned (.tuple #[.slice none 0 0, .int .i64 x17])) w14)
 (Br ((x15 : Int) == 0)
 (R (.returned (.tuple #[.slice none 0 0, .int .i64 2])) w14)
 (Br (decide ((x15 : Int) > x5))
 (R (.returned (.tuple #[.slice none 0 0, .int .i64 2])) w14)
 (∀ w18 : World, w18 = w14.setRow w7.heap.size #[.int .i64 x15, .int .i64 (IntKind.wrap .i64 x9)] →
 (0 : Int) ≤ (IntKind.wrap .i64 (1 + x16)) ∧ (IntKind.wrap .i64 (1 + x16)) ≤ ((s3.n : Nat) : Int) ∧ ∀ w19 : World, w19 = w18.drew.alloc (.cells #[.int .i64 x15, .int .i64 (IntKind.wrap .i64 x9)] 322) →
 AppPre 16 2 w19 ⟨s6.a, s6.n, s6.c⟩ 1 [.int .i64 x15, .int .i64 (IntKind.wrap .i64 x9)] ∧ ∀ (s20 : Sl) (w21 : World), AppRes 322 2 w19 ⟨s6.a, s6.n, s6.c⟩ 1 [.int .i64 x15, .int .i64 (IntKind.wrap .i64 x9)] s20 w21 → w21.heap[w7.heap.size]? = w19.heap[w7.heap.size]? ∧ w21.heap[w18.drew.heap.size]? = w19.heap[w18.drew.heap.size]? ∧
 Br (((IntKind.wrap .i64 (x5 - x15)) : Int) == 0)
 (Br (decide (((IntKind.wrap .i64 (x5 - x15)) : Int) > 0))
 (R (.returned (.tuple #[.slice none 0 0, .int .i64 3])) w21)
 (Br (decide (((((s3.n - ((IntKind.wrap .i64 (1 + x16)) : Int).toNat) : Nat) : Int) : Int) > 0))
 (R (.returned (.tuple #[.slice none 0 0, .int .i64 2])) w21)
 (R (.returned (.tuple #[.slice s20.a s20.n s20.c, .int .i64 0])) w21)))
 (∃ n8, n8 < n1 ∧ I0 n8 ⟨(slBase s3.a (((IntKind.wrap .i64 (1 + x16)) : Int).toNat) (s3.c) 1), (s3.n - ((IntKind.wrap .i64 (1 + x16)) : Int).toNat), (s3.c - ((IntKind.wrap .i64 (1 + x16)) : Int).toNat)⟩ ((IntKind.wrap .i64 x9)) ((IntKind.wrap .i64 (x5 - x15))) ⟨s20.a, s20.n, s20.c⟩ w21)))))))))
 (Br (decide ((x5 : Int) > 0))
 (R (.returned (.tuple #[.slice none 0 0, .int .i64 3])) w7)
 (Br (decide ((((s3.n : Nat) : Int) : Int) > 0))
 (R (.returned (.tuple #[.slice none 0 0, .int .i64 2])) w7)
 (R (.returned (.tuple #[.slice s6.a s6.n s6.c, .int .i64 0])) w7)))
theorem code_Read.vc {a0 a1 w} {R : Ending → World → Prop} (h : code_Read.pre a0 a1 w R) : Calls Tryz.prog n_code_Read #[.slice a0.a a0.n a0.c, .int .i64 a1] w R :=
 calls_of_eq (an := ⟨[(3, ⟨[(0, .slice), (7, .int .i64), (1, .int .i64), (6, .slice)], [], []⟩)], [], []⟩) (args := [.slice a0.a a0.n a0.c, .int .i64 a1]) Tryz.noNG Tryz.mixed Tryz.func232 h (by kernel_rfl)
def world_World_View.pre (a0 : Addr) (w : World) (R : Ending → World → Prop) : Prop :=
 ∃ (p0 : Option Addr), ld w (padd (some a0) 0) = some (.pointer p0) ∧
 R (.returned (.func (.func 113) #[.pointer p0] #[])) w
theorem world_World_View.vc {a0 w} {R : Ending → World → Prop} (h : world_World_View.pre a0 w R) : Calls Tryz.prog n_world_World_View #[.pointer (some a0)] w R :=
 calls_of_eq (an := ⟨[], [], []⟩) (args := [.pointer (some a0)]) Tryz.noNG Tryz.mixed Tryz.func58 h (by kernel_rfl)
def chunk_New.pre (a0_0 : Int) (a0_1 : Int) (a1 : Sl) (w : World) (R : Ending → World → Prop) : Prop :=
 ∀ w0 : World, w0 = w.alloc (.cells #[.int .i64 a0_0, .int .i64 a0_1] 139) →
 Calls Tryz.prog n_runs_May #[.slice a1.a a1.n a1.c, .int .i64 8192] w0 (fun e w1 => ∃ (b2 : Bool), e = .returned (.bool b2) ∧ w1.heap[w.heap.size]? = w0.heap[w.heap.size]? ∧
 Br (!b2)
 (R (.returned (.tuple #[.pointer none, .int .i64 1])) w1)
 ((Calls Tryz.prog n_slices_Clone_Run #[.slice a1.a a1.n a1.c] w1.drew (fun e w3 => ∃ (s4 : Sl), e = .returned (.slice s4.a s4.n s4.c) ∧ w3.heap[w.heap.size]? = w1.drew.heap[w.heap.size]? ∧
 ∀ w5 : World, w5 = w3.alloc (.cells #[.int .i64 a0_0, .int .i64 a0_1, .slice s4.a s4.n s4.c] 148) →
 R (.returned (.tuple #[.pointer (some ⟨w3.heap.size, 0, none⟩), .int .i64 0])) w5)) ∧ (Calls Tryz.prog n_slices_Clone_Run #[.slice a1.a a1.n a1.c] w1.drew (fun e w6 => ∃ (s7 : Sl), e = .returned (.slice s7.a s7.n s7.c) ∧ w6.heap[w.heap.size]? = w1.drew.heap[w.heap.size]? ∧
 LoadL w6 (some ⟨w.heap.size, 0, none⟩) 0 [.int .i64 a0_0, .int .i64 a0_1] ∧ ∀ w8 : World, w8 = w6.alloc (.cells #[.int .i64 a0_0, .int .i64 a0_1, .slice s7.a s7.n s7.c] 148) →
 R (.returned (.tuple #[.pointer (some ⟨w6.heap.size, 0, none⟩), .int .i64 0])) w8))))
theorem chunk_New.vc {a0_0 a0_1 a1 w} {R : Ending → World → Prop} (h : chunk_New.pre a0_0 a0_1 a1 w R) : Calls Tryz.prog n_chunk_New #[.agg #[.int .i64 a0_0, .int .i64 a0_1], .slice a1.a a1.n a1.c] w R :=
 calls_of_eq (an := ⟨[], [], []⟩) (args := [.agg #[.int .i64 a0_0, .int .i64 a0_1], .slice a1.a a1.n a1.c]) Tryz.noNG Tryz.mixed Tryz.func233 h (by kernel_rfl)
def gen_Chunk.pre (a0 : Int) (a1_0 : Int) (a1_1 : Int) (w : World) (R : Ending → World → Prop) : Prop :=
 ∀ w0 : World, w0 = w.alloc (.cells #[.int .i64 a1_0, .int .i64 a1_1] 139) →
 ∀ w1 : World, w1 = w0.alloc (.cells #[.slice none 0 0] 37) →
 Calls Tryz.prog n_gen_Cells #[.int .i64 a0, .agg #[.int .i64 a1_0, .int .i64 a1_1]] w1 (fun e w2 => ∃ (v3 : Value), e = .returned (v3) ∧ w2.heap[w.heap.size]? = w1.heap[w.heap.size]? ∧ w2.heap[w0.heap.size]? = w1.heap[w0.heap.size]? ∧
 ∃ (xs4 : List (List Value)) (Rd5 F6 : Nat → Prop) (I7 : Nat → (Nat → Prop) → Sl → World → Prop) (X8 : Option Nat → (Nat → Prop) → Sl → World → Prop),
 (∀ x ∈ xs4, ∃ (x9 : Int), x = [.int .i64 x9]) ∧
 (∀ (n10 : Nat) (F11 : Nat → Prop) (s12 : Sl) (w13 w14 : World), I7 n10 F11 s12 w13 → Below w2.heap.size w13 w14 → (∀ i, F11 i → w14.heap[i]? = w13.heap[i]?) → I7 n10 F11 s12 w14) ∧
 (∀ (n15 : Option Nat) (F16 : Nat → Prop) (s17 : Sl) (w18 w19 : World), X8 n15 F16 s17 w18 → Below w2.heap.size w18 w19 → (∀ i, F16 i → w19.heap[i]? = w18.heap[i]?) → X8 n15 F16 s17 w19) ∧
 (∀ (n20 : Nat) (F21 : Nat → Prop) (s22 : Sl) (w23 : World), I7 n20 F21 s22 w23 → ∀ i, F21 i → i < w23.heap.size ∧ i ≠ w2.heap.size ∧ i ≠ w2.heap.size + 1) ∧
 (∀ (n24 : Option Nat) (F25 : Nat → Prop) (s26 : Sl) (w27 : World), X8 n24 F25 s26 w27 → ∀ i, F25 i → i < w27.heap.size ∧ i ≠ w2.heap.size ∧ i ≠ w2.heap.size + 1) ∧
 (∀ i, Rd5 i → i < w2.heap.size ∧ ¬ F6 i ∧ i ≠ w.heap.size ∧ i ≠ w0.heap.size ∧ True) ∧
 (∀ w28 : World, Begun w2.heap.size w2 w28 → Iter Tryz.prog (v3) w28 Rd5 xs4 ∧ ([.int .i64 a1_0, .int .i64 a1_1] : List Value) = [.int .i64 a1_0, .int .i64 a1_1] ∧ I7 0 F6 ⟨none, 0, 0⟩ w28) ∧
 (∀ (n29 : Nat) (F30 : Nat → Prop) (us31 : Nat → Value) (s32 : Sl) (x33 : Int) (w34 : World), xs4[n29]? = some [.int .i64 x33] → I7 n29 F30 s32 w34 →
 Below w34.heap.size w34 w34 ∧ ∀ w35 : World, Rec (w2.heap.size + 1) w34 w35 → I7 n29 F30 s32 w35 →
 ∀ w36 : World, w36 = w35.alloc (.cells #[.int .i64 x33] 3) →
 AppPre 8 1 w36 ⟨s32.a, s32.n, s32.c⟩ 1 [.int .i64 x33] ∧ ∀ (s37 : Sl) (w38 : World), AppRes 3 1 w36 ⟨s32.a, s32.n, s32.c⟩ 1 [.int .i64 x33] s37 w38 → w38.heap[w.heap.size]? = w36.heap[w.heap.size]? ∧ w38.heap[w0.heap.size]? = w36.heap[w0.heap.size]? ∧ w38.heap[w35.heap.size]? = w36.heap[w35.heap.size]? ∧
 ∀ w39 : World, w39 = w38.setRow w0.heap.size #[.slice s37.a s37.n s37.c] →
 ∃ F40 : Nat → Prop, (([.int .i64 a1_0, .int .i64 a1_1] : List Value) = [.int .i64 a1_0, .int .i64 a1_1] ∧ I7 (n29 + 1) F40 ⟨s37.a, s37.n, s37.c⟩ w39) ∧ Step (fun i => (F30 i ∨ i ∈ ([w.heap.size, w0.heap.size] : List Nat)) ∨ w34.heap.size ≤ i) (fun i => F40 i ∨ i ∈ ([w.heap.size, w0.heap.size] : List Nat)) w35 w39) ∧
 (∀ (F41 : Nat → Prop) (us42 : Nat → Value) (s43 : Sl) (w44 : World), I7 xs4.length F41 s43 w44 → w44.heap[w2.heap.size]? = some (.deferred (some [])) →
 Calls Tryz.prog n_slices_Clip_int #[.slice s43.a s43.n s43.c] w44 (fun e w45 => ∃ (s46 : Sl), e = .returned (.slice s46.a s46.n s46.c) ∧ w45.heap[w.heap.size]? = w44.heap[w.heap.size]? ∧ w45.heap[w0.heap.size]? = w44.heap[w0.heap.size]? ∧
 Calls Tryz.prog n_runs_Of #[.slice s46.a s46.n s46.c] w45 (fun e w47 => ∃ (s48 : Sl), e = .returned (.slice s48.a s48.n s48.c) ∧ w47.heap[w.heap.size]? = w45.heap[w.heap.size]? ∧ w47.heap[w0.heap.size]? = w45.heap[w0.heap.size]? ∧
 w47.heap[w2.heap.size]? = some (.deferred (some [])) ∧ ∀ w49 : World, Rec w2.heap.size w47 w49 →
 R (.returned (.slice s48.a s48.n s48.c)) w49))) ∧
 True)
theorem gen_Chunk.vc {a0 a1_0 a1_1 w} {R : Ending → World → Prop} (h : gen_Chunk.pre a0 a1_0 a1_1 w R) : Calls Tryz.prog n_gen_Chunk #[.int .i64 a0, .agg #[.int .i64 a1_0, .int .i64 a1_1]] w R :=
 calls_of_eq (an := ⟨[], [], [(4, ⟨[], [(1, [.slice])], []⟩, [.sc (.int .i64)])]⟩) (args := [.int .i64 a0, .agg #[.int .i64 a1_0, .int .i64 a1_1]]) Tryz.noNG Tryz.mixed Tryz.func234 h (by kernel_rfl)
def cell_Div.pre (a0 : Int) (a1 : Int) (w : World) (R : Ending → World → Prop) : Prop :=
 Br (decide ((a1 : Int) < 1))
 (R (.returned (.int .i64 0)) w)
 (AndL (nzC a1) (AndL (nzC a1) (Br (decide (((Int.tmod a0 a1) : Int) < 0))
 (R (.returned (.int .i64 (IntKind.wrap .i64 ((IntKind.wrap .i64 (Int.tdiv a0 a1)) - 1)))) w)
 (R (.returned (.int .i64 (IntKind.wrap .i64 (Int.tdiv a0 a1)))) w))))
theorem cell_Div.vc {a0 a1 w} {R : Ending → World → Prop} (h : cell_Div.pre a0 a1 w R) : Calls Tryz.prog n_cell_Div #[.int .i64 a0, .int .i64 a1] w R :=
 calls_of_eq (an := ⟨[], [], []⟩) (args := [.int .i64 a0, .int .i64 a1]) Tryz.noNG Tryz.mixed Tryz.func239 h (by kernel_rfl)
def chunk_place_index.pre (a0_0 : Int) (a0_1 : Int) (a1_0 : Int) (a1_1 : Int) (a1_2 : Int) (w : World) (R : Ending → World → Prop) : Prop :=
 ∀ w0 : World, w0 = w.alloc (.cells #[.int .i64 a0_0, .int .i64 a0_1] 145) →
 ∀ w1 : World, w1 = w0.alloc (.cells #[.int .i64 a1_0, .int .i64 a1_1, .int .i64 a1_2] 23) →
 Calls Tryz.prog n_cell_Index #[.agg #[.int .i64 a1_0, .int .i64 a1_1, .int .i64 a1_2]] w1 (fun e w2 => ∃ (x3 : Int) (b4 : Bool), e = .returned (.tuple #[.int .i64 x3, .bool b4]) ∧ w2.heap[w.heap.size]? = w1.heap[w.heap.size]? ∧ w2.heap[w0.heap.size]? = w1.heap[w0.heap.size]? ∧
 Br b4
 (Calls Tryz.prog n_cell_Chunk #[.agg #[.int .i64 a1_0, .int .i64 a1_1, .int .i64 a1_2]] w2.drew (fun e w5 => ∃ (x6 : Int) (x7 : Int), e = .returned (.agg #[.int .i64 x6, .int .i64 x7]) ∧ w5.heap[w.heap.size]? = w2.drew.heap[w.heap.size]? ∧ w5.heap[w0.heap.size]? = w2.drew.heap[w0.heap.size]? ∧
 LoadL w5 (some ⟨w.heap.size, 0, none⟩) 0 [.int .i64 a0_0, .int .i64 a0_1] ∧ R (.returned (.tuple #[.int .i64 x3, .bool (((x6 : Int) == a0_0) && ((x7 : Int) == a0_1))])) w5))
 (R (.returned (.tuple #[.int .i64 x3, .bool false])) w2.drew))
theorem chunk_place_index.vc {a0_0 a0_1 a1_0 a1_1 a1_2 w} {R : Ending → World → Prop} (h : chunk_place_index.pre a0_0 a0_1 a1_0 a1_1 a1_2 w R) : Calls Tryz.prog n_chunk_place_index #[.agg #[.int .i64 a0_0, .int .i64 a0_1], .agg #[.int .i64 a1_0, .int .i64 a1_1, .int .i64 a1_2]] w R :=
 calls_of_eq (an := ⟨[], [], []⟩) (args := [.agg #[.int .i64 a0_0, .int .i64 a0_1], .agg #[.int .i64 a1_0, .int .i64 a1_1, .int .i64 a1_2]]) Tryz.noNG Tryz.mixed Tryz.func240 h (by kernel_rfl)
def runs_At.pre (a0 : Sl) (a1 : Int) (w : World) (R : Ending → World → Prop) : Prop :=
 ∃ I0 : Nat → Int → Int → World → Prop,
 (∃ n1, I0 n1 (0) (a1) w) ∧
 ∀ (n1 : Nat) (us2 : Nat → Value) (x3 : Int) (x4 : Int) (w5 : World), I0 n1 x3 x4 w5 →
 Br (decide ((x3 : Int) < ((a0.n : Nat) : Int)))
 (InB a0.a x3 a0.n ∧ ∃ (x7 : Int) (x8 : Int), LoadL w5 (padd a0.a ((x3 : Int).toNat * 2)) 0 [.int .i64 x7, .int .i64 x8] ∧
 ∀ w9 : World, w9 = w5.alloc (.cells #[.int .i64 0, .int .i64 0] 322) →
 ∀ w10 : World, w10 = w9.setRow w5.heap.size #[.int .i64 x7, .int .i64 x8] →
 Br (decide ((x4 : Int) ≥ 0))
 (Br (decide ((x4 : Int) < x7))
 (R (.returned (.int .i64 x8)) w10)
 (∃ n6, n6 < n1 ∧ I0 n6 ((IntKind.wrap .i64 (x3 + 1))) ((IntKind.wrap .i64 (x4 - x7))) w10))
 (∃ n6, n6 < n1 ∧ I0 n6 ((IntKind.wrap .i64 (x3 + 1))) ((IntKind.wrap .i64 (x4 - x7))) w10))
 (R (.returned (.int .i64 (-1))) w5)
theorem runs_At.vc {a0 a1 w} {R : Ending → World → Prop} (h : runs_At.pre a0 a1 w R) : Calls Tryz.prog n_runs_At #[.slice a0.a a0.n a0.c, .int .i64 a1] w R :=
 calls_of_eq (an := ⟨[(2, ⟨[(9, .int .i64), (1, .int .i64)], [], []⟩)], [], []⟩) (args := [.slice a0.a a0.n a0.c, .int .i64 a1]) Tryz.noNG Tryz.mixed Tryz.func241 h (by kernel_rfl)
def block_Wet.pre (a0 : Int) (w : World) (R : Ending → World → Prop) : Prop :=
 Br (decide ((a0 : Int) ≥ 8))
 (R (.returned (.bool (decide ((a0 : Int) < 16)))) w)
 (R (.returned (.bool false)) w)
theorem block_Wet.vc {a0 w} {R : Ending → World → Prop} (h : block_Wet.pre a0 w R) : Calls Tryz.prog n_block_Wet #[.int .i64 a0] w R :=
 calls_of_eq (an := ⟨[], [], []⟩) (args := [.int .i64 a0]) Tryz.noNG Tryz.mixed Tryz.func262 h (by kernel_rfl)
def table_Table_Here.pre (a0 : Addr) (w : World) (R : Ending → World → Prop) : Prop :=
 ∃ (s0 : Sl), ld w (padd (some a0) 3) = some (.slice s0.a s0.n s0.c) ∧
 ∃ I1 : Nat → Int → Sl → World → Prop,
 (∃ n2, I1 n2 (0) ⟨none, 0, 0⟩ w) ∧
 ∀ (n2 : Nat) (us3 : Nat → Value) (x4 : Int) (s5 : Sl) (w6 : World), I1 n2 x4 s5 w6 →
 Br (decide ((x4 : Int) < ((s0.n : Nat) : Int)))
 (InB s0.a x4 s0.n ∧ ∃ (p8 : Option Addr), ld w6 (padd s0.a ((x4 : Int).toNat * 1)) = some (.pointer p8) ∧
 AndL (nnC p8) (AndL (nnC p8) (∃ (p9 : Option Addr), ld w6 (padd p8 0) = some (.pointer p9) ∧
 AndL (nnC p9) (AndL (nnC p9) (∃ (x10 : Int) (x11 : Int), LoadL w6 (padd p9 0) 0 [.int .i64 x10, .int .i64 x11] ∧
 Calls Tryz.prog n_chunk_place_Place #[.agg #[.int .i64 x10, .int .i64 x11]] w6 (fun e w12 => ∃ (x13 : Int) (x14 : Int), e = .returned (.agg #[.int .i64 x13, .int .i64 x14]) ∧
 ∀ w15 : World, w15 = w12.alloc (.cells #[.int .i64 x13, .int .i64 x14] 139) →
 AppPre 16 2 w15 ⟨s5.a, s5.n, s5.c⟩ 1 [.int .i64 x13, .int .i64 x14] ∧ ∀ (s16 : Sl) (w17 : World), AppRes 139 2 w15 ⟨s5.a, s5.n, s5.c⟩ 1 [.int .i64 x13, .int .i64 x14] s16 w17 → w17.heap[w12.heap.size]? = w15.heap[w12.heap.size]? ∧
 ∃ n7, n7 < n2 ∧ I1 n7 ((IntKind.wrap .i64 (x4 + 1))) ⟨s16.a, s16.n, s16.c⟩ w17))))))
 (R (.returned (.slice s5.a s5.n s5.c)) w6)
theorem table_Table_Here.vc {a0 w} {R : Ending → World → Prop} (h : table_Table_Here.pre a0 w R) : Calls Tryz.prog n_table_Table_Here #[.pointer (some a0)] w R :=
 calls_of_eq (an := ⟨[(3, ⟨[(11, .int .i64), (3, .slice)], [], []⟩)], [], []⟩) (args := [.pointer (some a0)]) Tryz.noNG Tryz.mixed Tryz.func42 h (by kernel_rfl)
def ref04_May.pre (a0 : Int) (w : World) (R : Ending → World → Prop) : Prop :=
 Br (decide ((a0 : Int) ≥ 0))
 (Br (decide ((a0 : Int) ≤ 15))
 (Br ((a0 : Int) != 6)
 (R (.returned (.bool ((a0 : Int) != 7))) w)
 (R (.returned (.bool false)) w))
 (R (.returned (.bool false)) w))
 (R (.returned (.bool false)) w)
theorem ref04_May.vc {a0 w} {R : Ending → World → Prop} (h : ref04_May.pre a0 w R) : Calls Tryz.prog n_ref04_May #[.int .i64 a0] w R :=
 calls_of_eq (an := ⟨[], [], []⟩) (args := [.int .i64 a0]) Tryz.noNG Tryz.mixed Tryz.func56 h (by kernel_rfl)
def cell_Mod.pre (a0 : Int) (a1 : Int) (w : World) (R : Ending → World → Prop) : Prop :=
 Br (decide ((a1 : Int) < 1))
 (R (.returned (.int .i64 0)) w)
 (AndL (nzC a1) (Br (decide (((Int.tmod a0 a1) : Int) < 0))
 (R (.returned (.int .i64 (IntKind.wrap .i64 ((Int.tmod a0 a1) + a1)))) w)
 (R (.returned (.int .i64 (Int.tmod a0 a1))) w)))
theorem cell_Mod.vc {a0 a1 w} {R : Ending → World → Prop} (h : cell_Mod.pre a0 a1 w R) : Calls Tryz.prog n_cell_Mod #[.int .i64 a0, .int .i64 a1] w R :=
 calls_of_eq (an := ⟨[], [], []⟩) (args := [.int .i64 a0, .int .i64 a1]) Tryz.noNG Tryz.mixed Tryz.func349 h (by kernel_rfl)
def block_Name.pre (a0 : Int) (w : World) (R : Ending → World → Prop) : Prop :=
 Br (decide ((a0 : Int) < 0))
 (R (.returned (.string (ByteArray.mk #[]))) w)
 (Br (decide ((a0 : Int) ≥ 16))
 (R (.returned (.string (ByteArray.mk #[]))) w)
 (Calls Tryz.prog n_block_names #[] w (fun e w0 => ∃ (t1 : ByteArray) (t2 : ByteArray) (t3 : ByteArray) (t4 : ByteArray) (t5 : ByteArray) (t6 : ByteArray) (t7 : ByteArray) (t8 : ByteArray) (t9 : ByteArray) (t10 : ByteArray) (t11 : ByteArray) (t12 : ByteArray) (t13 : ByteArray) (t14 : ByteArray) (t15 : ByteArray) (t16 : ByteArray), e = .returned (.agg #[.string t1, .string t2, .string t3, .string t4, .string t5, .string t6, .string t7, .string t8, .string t9, .string t10, .string t11, .string t12, .string t13, .string t14, .string t15, .string t16]) ∧
 ((0 : Int) ≤ a0 ∧ (a0 : Int) < ((16 : Nat) : Int)) ∧ ∃ (t17 : ByteArray), ([.string t1, .string t2, .string t3, .string t4, .string t5, .string t6, .string t7, .string t8, .string t9, .string t10, .string t11, .string t12, .string t13, .string t14, .string t15, .string t16] : List Value)[(a0 : Int).toNat * 1]? = some (.string t17) ∧
 R (.returned (.string t17)) w0)))
theorem block_Name.vc {a0 w} {R : Ending → World → Prop} (h : block_Name.pre a0 w R) : Calls Tryz.prog n_block_Name #[.int .i64 a0] w R :=
 calls_of_eq (an := ⟨[], [], []⟩) (args := [.int .i64 a0]) Tryz.noNG Tryz.mixed Tryz.func170 h (by kernel_rfl)
def runs_Set.pre (a0 : Sl) (a1 : Int) (a2 : Int) (w : World) (R : Ending → World → Prop) : Prop :=
 Br (decide ((a1 : Int) < 0))
 (Calls Tryz.prog n_slices_Clone_Run #[.slice a0.a a0.n a0.c] w (fun e w0 => ∃ (s1 : Sl), e = .returned (.slice s1.a s1.n s1.c) ∧
 R (.returned (.slice s1.a s1.n s1.c)) w0))
 (Calls Tryz.prog n_runs_Len #[.slice a0.a a0.n a0.c] w (fun e w2 => ∃ (x3 : Int), e = .returned (.int .i64 x3) ∧
 Br (decide ((a1 : Int) ≥ x3))
 (Calls Tryz.prog n_slices_Clone_Run #[.slice a0.a a0.n a0.c] w2 (fun e w4 => ∃ (s5 : Sl), e = .returned (.slice s5.a s5.n s5.c) ∧
 R (.returned (.slice s5.a s5.n s5.c)) w4))
 (Calls Tryz.prog n_runs_Fill #[.slice a0.a a0.n a0.c, .int .i64 a1, .int .i64 (IntKind.wrap .i64 (a1 + 1)), .int .i64 a2] w2 (fun e w6 => ∃ (s7 : Sl), e = .returned (.slice s7.a s7.n s7.c) ∧
 R (.returned (.slice s7.a s7.n s7.c)) w6))))
theorem runs_Set.vc {a0 a1 a2 w} {R : Ending → World → Prop} (h : runs_Set.pre a0 a1 a2 w R) : Calls Tryz.prog n_runs_Set #[.slice a0.a a0.n a0.c, .int .i64 a1, .int .i64 a2] w R :=
 calls_of_eq (an := ⟨[], [], []⟩) (args := [.slice a0.a a0.n a0.c, .int .i64 a1, .int .i64 a2]) Tryz.noNG Tryz.mixed Tryz.func376 h (by kernel_rfl)
def chunk_Chunk_Bytes.pre (a0 : Addr) (w : World) (R : Ending → World → Prop) : Prop :=
 ∃ (s0 : Sl), ld w (padd (some a0) 2) = some (.slice s0.a s0.n s0.c) ∧
 Calls Tryz.prog n_code_Write #[.slice s0.a s0.n s0.c] w (fun e w1 => ∃ (s2 : Sl) (x3 : Int), e = .returned (.tuple #[.slice s2.a s2.n s2.c, .int .i64 x3]) ∧
 R (.returned (.slice s2.a s2.n s2.c)) w1)
theorem chunk_Chunk_Bytes.vc {a0 w} {R : Ending → World → Prop} (h : chunk_Chunk_Bytes.pre a0 w R) : Calls Tryz.prog n_chunk_Chunk_Bytes #[.pointer (some a0)] w R :=
 calls_of_eq (an := ⟨[], [], []⟩) (args := [.pointer (some a0)]) Tryz.noNG Tryz.mixed Tryz.func236 h (by kernel_rfl)
def disk_New.pre (a0 : Int) (w : World) (R : Ending → World → Prop) : Prop :=
 ∀ w0 : World, w0 = w.alloc (.map #[] 0) →
 ∀ w1 : World, w1 = w0.alloc (.cells #[.int .i64 (if 1048576 < (if 0 > a0 then 0 else a0) then 1048576 else (if 0 > a0 then 0 else a0)), .int .i64 0, .int .i64 0, .map (some w.heap.size), .slice none 0 0] 237) →
 R (.returned (.pointer (some ⟨w0.heap.size, 0, none⟩))) w1
theorem disk_New.vc {a0 w} {R : Ending → World → Prop} (h : disk_New.pre a0 w R) : Calls Tryz.prog n_disk_New #[.int .i64 a0] w R :=
 calls_of_eq (an := ⟨[], [], []⟩) (args := [.int .i64 a0]) Tryz.noNG Tryz.mixed Tryz.func297 h (by kernel_rfl)
def disk_Disk_Get.pre (a0 : Addr) (a1 : Int) (w : World) (R : Ending → World → Prop) : Prop :=
 Calls Tryz.prog n_disk_Disk_now #[.pointer (some a0)] w (fun e w0 => ∃ (m1 : Option Nat), e = .returned (.map m1) ∧
 ∃ (G2 : Value → Prop) (kvs3 : List (Value × Value)), KeyOk Tryz.prog 3 G2 ∧ MapIs G2 w0 m1 kvs3 ∧ G2 (.int .i64 a1) ∧ ∃ (s4 : Sl), ∃ b5 : Bool, Look kvs3 (.int .i64 a1) (.slice none 0 0) (.slice s4.a s4.n s4.c) b5 ∧
 Calls Tryz.prog n_slices_Clone_byte #[.slice s4.a s4.n s4.c] w0 (fun e w6 => ∃ (s7 : Sl), e = .returned (.slice s7.a s7.n s7.c) ∧
 R (.returned (.tuple #[.slice s7.a s7.n s7.c, .bool b5])) w6))
theorem disk_Disk_Get.vc {a0 a1 w} {R : Ending → World → Prop} (h : disk_Disk_Get.pre a0 a1 w R) : Calls Tryz.prog n_disk_Disk_Get #[.pointer (some a0), .int .i64 a1] w R :=
 calls_of_eq (an := ⟨[], [], []⟩) (args := [.pointer (some a0), .int .i64 a1]) Tryz.noNG Tryz.mixed Tryz.func284 h (by kernel_rfl)
def store_Read.pre (a0 : Sl) (w : World) (R : Ending → World → Prop) : Prop :=
 Calls Tryz.prog n_crc_Take #[.slice a0.a a0.n a0.c] w (fun e w0 => ∃ (s1 : Sl) (x2 : Int), e = .returned (.tuple #[.slice s1.a s1.n s1.c, .int .i64 x2]) ∧
 Br ((x2 : Int) != 0)
 (R (.returned (.tuple #[.int .i64 0, .slice none 0 0, .int .i64 x2])) w0)
 (Br (decide ((((s1.n : Nat) : Int) : Int) < 7))
 (R (.returned (.tuple #[.int .i64 0, .slice none 0 0, .int .i64 3])) w0)
 ((0 : Int) ≤ 4 ∧ 4 ≤ ((s1.c : Nat) : Int) ∧ (0 : Int) ≤ 7 ∧ 7 ≤ ((s1.c : Nat) : Int) ∧ (0 : Int) ≤ 4 ∧ (4 : Int) ≤ 7 ∧ (0 : Int) ≤ 7 ∧ 7 ≤ ((s1.n : Nat) : Int) ∧ Calls Tryz.prog 336 #[.slice (slBase s1.a (0) (s1.c) 1) ((4 : Int).toNat - 0) (s1.c - 0)] w0.drew (fun e w3 => ∃ (x4 : Int), e = .returned (.int .i64 x4) ∧
 Calls Tryz.prog 336 #[.slice (slBase s1.a ((4 : Int).toNat) (s1.c) 1) ((7 : Int).toNat - (4 : Int).toNat) (s1.c - (4 : Int).toNat)] w3 (fun e w5 => ∃ (x6 : Int), e = .returned (.int .i64 x6) ∧
 Br (decide ((x4 : Int) < 1))
 (R (.returned (.tuple #[.int .i64 0, .slice none 0 0, .int .i64 2])) w5)
 (Br (decide ((x4 : Int) > 1073741824))
 (R (.returned (.tuple #[.int .i64 0, .slice none 0 0, .int .i64 2])) w5)
 (Br (decide ((x6 : Int) > 65536))
 (R (.returned (.tuple #[.int .i64 0, .slice none 0 0, .int .i64 2])) w5)
 (Br ((x6 : Int) != (((s1.n - (7 : Int).toNat) : Nat) : Int))
 (R (.returned (.tuple #[.int .i64 0, .slice none 0 0, .int .i64 2])) w5)
 (R (.returned (.tuple #[.int .i64 x4, .slice (slBase s1.a ((7 : Int).toNat) (s1.c) 1) (s1.n - (7 : Int).toNat) (s1.c - (7 : Int).toNat), .int .i64 0])) w5)))))))))
theorem store_Read.vc {a0 w} {R : Ending → World → Prop} (h : store_Read.pre a0 w R) : Calls Tryz.prog n_store_Read #[.slice a0.a a0.n a0.c] w R :=
 calls_of_eq (an := ⟨[], [], []⟩) (args := [.slice a0.a a0.n a0.c]) Tryz.noNG Tryz.mixed Tryz.func285 h (by kernel_rfl)
def code_Digits.pre (a0 : Sl) (w : World) (R : Ending → World → Prop) : Prop :=
 (0 : Int) ≤ (if 3 < ((a0.n : Nat) : Int) then 3 else ((a0.n : Nat) : Int)) ∧ (if 3 < ((a0.n : Nat) : Int) then 3 else ((a0.n : Nat) : Int)) ≤ ((a0.c : Nat) : Int) ∧ ∃ I0 : Nat → Int → Int → World → Prop,
 (∃ n1, I0 n1 (0) (0) w) ∧
 ∀ (n1 : Nat) (us2 : Nat → Value) (x3 : Int) (x4 : Int) (w5 : World), I0 n1 x3 x4 w5 →
 Br (decide ((x3 : Int) < (((((if 3 < ((a0.n : Nat) : Int) then 3 else ((a0.n : Nat) : Int)) : Int).toNat - 0) : Nat) : Int)))
 (InB (slBase a0.a (0) (a0.c) 1) x3 (((if 3 < ((a0.n : Nat) : Int) then 3 else ((a0.n : Nat) : Int)) : Int).toNat - 0) ∧ ∃ (x7 : Int), ld w5 (padd (slBase a0.a (0) (a0.c) 1) ((x3 : Int).toNat * 1)) = some (.int .u8 x7) ∧
 AndL (ngC (IntKind.wrap .i64 (7 * x3))) (Br (decide ((x7 : Int) ≥ 128))
 (∃ n6, n6 < n1 ∧ I0 n6 ((IntKind.wrap .i64 (x3 + 1))) ((bOr .i64 x4 (IntKind.wrap .i64 ((IntKind.wrap .i64 (bAndNot .u8 x7 128)) * 2 ^ (min ((IntKind.wrap .i64 (7 * x3)) : Int).toNat 64))))) w5)
 (Br ((x7 : Int) == 0)
 (Br (decide ((x3 : Int) > 0))
 (R (.returned (.tuple #[.int .i64 0, .int .i64 0, .int .i64 2])) w5)
 (Br (decide (((bOr .i64 x4 (IntKind.wrap .i64 ((IntKind.wrap .i64 (bAndNot .u8 x7 128)) * 2 ^ (min ((IntKind.wrap .i64 (7 * x3)) : Int).toNat 64)))) : Int) > 1048576))
 (R (.returned (.tuple #[.int .i64 0, .int .i64 0, .int .i64 2])) w5)
 (R (.returned (.tuple #[.int .i64 (bOr .i64 x4 (IntKind.wrap .i64 ((IntKind.wrap .i64 (bAndNot .u8 x7 128)) * 2 ^ (min ((IntKind.wrap .i64 (7 * x3)) : Int).toNat 64)))), .int .i64 (IntKind.wrap .i64 (x3 + 1)), .int .i64 0])) w5)))
 (Br (decide (((bOr .i64 x4 (IntKind.wrap .i64 ((IntKind.wrap .i64 (bAndNot .u8 x7 128)) * 2 ^ (min ((IntKind.wrap .i64 (7 * x3)) : Int).toNat 64)))) : Int) > 1048576))
 (R (.returned (.tuple #[.int .i64 0, .int .i64 0, .int .i64 2])) w5)
 (R (.returned (.tuple #[.int .i64 (bOr .i64 x4 (IntKind.wrap .i64 ((IntKind.wrap .i64 (bAndNot .u8 x7 128)) * 2 ^ (min ((IntKind.wrap .i64 (7 * x3)) : Int).toNat 64)))), .int .i64 (IntKind.wrap .i64 (x3 + 1)), .int .i64 0])) w5)))))
 (Br (decide ((((a0.n : Nat) : Int) : Int) < 3))
 (R (.returned (.tuple #[.int .i64 0, .int .i64 0, .int .i64 3])) w5)
 (R (.returned (.tuple #[.int .i64 0, .int .i64 0, .int .i64 2])) w5))
theorem code_Digits.vc {a0 w} {R : Ending → World → Prop} (h : code_Digits.pre a0 w R) : Calls Tryz.prog n_code_Digits #[.slice a0.a a0.n a0.c] w R :=
 calls_of_eq (an := ⟨[(3, ⟨[(14, .int .i64), (5, .int .i64)], [], []⟩)], [], []⟩) (args := [.slice a0.a a0.n a0.c]) Tryz.noNG Tryz.mixed Tryz.func286 h (by kernel_rfl)
def runs_May.pre (a0 : Sl) (a1 : Int) (w : World) (R : Ending → World → Prop) : Prop :=
 ∃ I0 : Nat → Int → Int → World → Prop,
 (∃ n1, I0 n1 (0) (a1) w) ∧
 ∀ (n1 : Nat) (us2 : Nat → Value) (x3 : Int) (x4 : Int) (w5 : World), I0 n1 x3 x4 w5 →
 Br (decide ((x3 : Int) < ((a0.n : Nat) : Int)))
 (InB a0.a x3 a0.n ∧ ∃ (x7 : Int) (x8 : Int), LoadL w5 (padd a0.a ((x3 : Int).toNat * 2)) 0 [.int .i64 x7, .int .i64 x8] ∧
 ∀ w9 : World, w9 = w5.alloc (.cells #[.int .i64 0, .int .i64 0] 322) →
 ∀ w10 : World, w10 = w9.setRow w5.heap.size #[.int .i64 x7, .int .i64 x8] →
 Br (decide ((x7 : Int) < 1))
 (R (.returned (.bool false)) w10.drew)
 (Br (decide ((x7 : Int) > x4))
 (R (.returned (.bool false)) w10.drew)
 (Calls Tryz.prog n_block_May #[.int .i64 x8] w10.drew (fun e w11 => ∃ (b12 : Bool), e = .returned (.bool b12) ∧ w11.heap[w5.heap.size]? = w10.drew.heap[w5.heap.size]? ∧
 LoadL w11 (some ⟨w5.heap.size, 0, none⟩) 0 [.int .i64 x7] ∧ LoadL w11 (some ⟨w5.heap.size, 0, none⟩) 0 [.int .i64 x7] ∧ Br (!b12)
 (R (.returned (.bool false)) w11)
 (Br (decide ((x3 : Int) > 0))
 (InB a0.a (IntKind.wrap .i64 (x3 - 1)) a0.n ∧ AndL (nnC (padd a0.a (((IntKind.wrap .i64 (x3 - 1)) : Int).toNat * 2))) (∃ (x13 : Int), ld w11 (padd (padd a0.a (((IntKind.wrap .i64 (x3 - 1)) : Int).toNat * 2)) 1) = some (.int .i64 x13) ∧
 Br ((x13 : Int) == x8)
 (R (.returned (.bool false)) w11)
 (∃ n6, n6 < n1 ∧ I0 n6 ((IntKind.wrap .i64 (x3 + 1))) ((IntKind.wrap .i64 (x4 - x7))) w11)))
 (∃ n6, n6 < n1 ∧ I0 n6 ((IntKind.wrap .i64 (x3 + 1))) ((IntKind.wrap .i64 (x4 - x7))) w11))))))
 (Br (decide ((a1 : Int) > 0))
 (R (.returned (.bool ((x4 : Int) == 0))) w5)
 (R (.returned (.bool false)) w5))
theorem runs_May.vc {a0 a1 w} {R : Ending → World → Prop} (h : runs_May.pre a0 a1 w R) : Calls Tryz.prog n_runs_May #[.slice a0.a a0.n a0.c, .int .i64 a1] w R :=
 calls_of_eq (an := ⟨[(3, ⟨[(11, .int .i64), (5, .int .i64)], [], []⟩)], [], []⟩) (args := [.slice a0.a a0.n a0.c, .int .i64 a1]) Tryz.noNG Tryz.mixed Tryz.func287 h (by kernel_rfl)
def slices_Clone_Run.pre (a0 : Sl) (w : World) (R : Ending → World → Prop) : Prop :=
 Br (a0.a).isNone
 (R (.returned (.slice none 0 0)) w)
 (∀ w0 : World, w0 = w.alloc (.cells #[] 322) →
 ∃ l1 : List Value, Rd w0 a0.a l1 ∧ AppPre 16 2 w0 ⟨(some ⟨w.heap.size, 0, none⟩), 0, 0⟩ a0.n l1 ∧ ∀ (s2 : Sl) (w3 : World), AppRes 322 2 w0 ⟨(some ⟨w.heap.size, 0, none⟩), 0, 0⟩ a0.n l1 s2 w3 → w3.heap[w.heap.size]? = w0.heap[w.heap.size]? ∧
 R (.returned (.slice s2.a s2.n s2.c)) w3)
theorem slices_Clone_Run.vc {a0 w} {R : Ending → World → Prop} (h : slices_Clone_Run.pre a0 w R) : Calls Tryz.prog n_slices_Clone_Run #[.slice a0.a a0.n a0.c] w R :=
 calls_of_eq (an := ⟨[], [], []⟩) (args := [.slice a0.a a0.n a0.c]) Tryz.noNG Tryz.mixed Tryz.func288 h (by kernel_rfl)
def gen_Cells.pre (a0 : Int) (a1_0 : Int) (a1_1 : Int) (w : World) (R : Ending → World → Prop) : Prop :=
 ∀ w0 : World, w0 = w.alloc (.cells #[.int .i64 a0] 3) →
 ∀ w1 : World, w1 = w0.alloc (.cells #[.int .i64 a1_0, .int .i64 a1_1] 139) →
 R (.returned (.func (.func 337) #[] #[.pointer (some ⟨w0.heap.size, 0, none⟩), .pointer (some ⟨w.heap.size, 0, none⟩)])) w1
theorem gen_Cells.vc {a0 a1_0 a1_1 w} {R : Ending → World → Prop} (h : gen_Cells.pre a0 a1_0 a1_1 w R) : Calls Tryz.prog n_gen_Cells #[.int .i64 a0, .agg #[.int .i64 a1_0, .int .i64 a1_1]] w R :=
 calls_of_eq (an := ⟨[], [], []⟩) (args := [.int .i64 a0, .agg #[.int .i64 a1_0, .int .i64 a1_1]]) Tryz.noNG Tryz.mixed Tryz.func289 h (by kernel_rfl)
def runs_Of.pre (a0 : Sl) (w : World) (R : Ending → World → Prop) : Prop :=
 ∃ I0 : Nat → Int → Sl → World → Prop,
 (∃ n1, I0 n1 (0) ⟨none, 0, 0⟩ w) ∧
 ∀ (n1 : Nat) (us2 : Nat → Value) (x3 : Int) (s4 : Sl) (w5 : World), I0 n1 x3 s4 w5 →
 Br (decide ((x3 : Int) < ((a0.n : Nat) : Int)))
 (InB a0.a x3 a0.n ∧ ∃ (x7 : Int), ld w5 (padd a0.a ((x3 : Int).toNat * 1)) = some (.int .i64 x7) ∧
 Calls Tryz.prog n_runs_push #[.slice s4.a s4.n s4.c, .agg #[.int .i64 1, .int .i64 x7]] w5 (fun e w8 => ∃ (s9 : Sl), e = .returned (.slice s9.a s9.n s9.c) ∧
 ∃ n6, n6 < n1 ∧ I0 n6 ((IntKind.wrap .i64 (x3 + 1))) ⟨s9.a, s9.n, s9.c⟩ w8))
 (R (.returned (.slice s4.a s4.n s4.c)) w5)
theorem runs_Of.vc {a0 w} {R : Ending → World → Prop} (h : runs_Of.pre a0 w R) : Calls Tryz.prog n_runs_Of #[.slice a0.a a0.n a0.c] w R :=
 calls_of_eq (an := ⟨[(3, ⟨[(8, .int .i64), (3, .slice)], [], []⟩)], [], []⟩) (args := [.slice a0.a a0.n a0.c]) Tryz.noNG Tryz.mixed Tryz.func290 h (by kernel_rfl)
def slices_Clip_int.pre (a0 : Sl) (w : World) (R : Ending → World → Prop) : Prop :=
 (0 : Int) ≤ ((a0.n : Nat) : Int) ∧ ((a0.n : Nat) : Int) ≤ ((a0.c : Nat) : Int) ∧ (0 : Int) ≤ ((a0.n : Nat) : Int) ∧ (((a0.n : Nat) : Int) : Int) ≤ ((a0.n : Nat) : Int) ∧ R (.returned (.slice (slBase a0.a (0) ((((a0.n : Nat) : Int) : Int).toNat) 1) ((((a0.n : Nat) : Int) : Int).toNat - 0) ((((a0.n : Nat) : Int) : Int).toNat - 0))) w
theorem slices_Clip_int.vc {a0 w} {R : Ending → World → Prop} (h : slices_Clip_int.pre a0 w R) : Calls Tryz.prog n_slices_Clip_int #[.slice a0.a a0.n a0.c] w R :=
 calls_of_eq (an := ⟨[], [], []⟩) (args := [.slice a0.a a0.n a0.c]) Tryz.noNG Tryz.mixed Tryz.func291 h (by kernel_rfl)
def block_names.pre  (w : World) (R : Ending → World → Prop) : Prop :=
 ∀ w0 : World, w0 = w.alloc (.cells #[.string (ByteArray.mk #[]), .string (ByteArray.mk #[]), .string (ByteArray.mk #[]), .string (ByteArray.mk #[]), .string (ByteArray.mk #[]), .string (ByteArray.mk #[]), .string (ByteArray.mk #[]), .string (ByteArray.mk #[]), .string (ByteArray.mk #[]), .string (ByteArray.mk #[]), .string (ByteArray.mk #[]), .string (ByteArray.mk #[]), .string (ByteArray.mk #[]), .string (ByteArray.mk #[]), .string (ByteArray.mk #[]), .string (ByteArray.mk #[])] 283) →
 ∀ w1 : World, w1 = w0.alloc (.cells #[.string (ByteArray.mk #[]), .string (ByteArray.mk #[]), .string (ByteArray.mk #[]), .string (ByteArray.mk #[]), .string (ByteArray.mk #[]), .string (ByteArray.mk #[]), .string (ByteArray.mk #[]), .string (ByteArray.mk #[]), .string (ByteArray.mk #[]), .string (ByteArray.mk #[]), .string (ByteArray.mk #[]), .string (ByteArray.mk #[]), .string (ByteArray.mk #[]), .string (ByteArray.mk #[]), .string (ByteArray.mk #[]), .string (ByteArray.mk #[])] 283) →
 (true = true ∧ Wr w1 (some ⟨w0.heap.size, 0, none⟩) 16) ∧ (∀ w2 : World, w2 = setP w1 (some ⟨w0.heap.size, 0, none⟩) [.string (ByteArray.mk #[97, 105, 114]), .string (ByteArray.mk #[115, 116, 111, 110, 101]), .string (ByteArray.mk #[100, 105, 114, 116]), .string (ByteArray.mk #[115, 97, 110, 100]), .string (ByteArray.mk #[108, 97, 100, 100, 101, 114]), .string (ByteArray.mk #[103, 108, 97, 115, 115]), .string (ByteArray.mk #[]), .string (ByteArray.mk #[]), .string (ByteArray.mk #[]), .string (ByteArray.mk #[]), .string (ByteArray.mk #[]), .string (ByteArray.mk #[]), .string (ByteArray.mk #[]), .string (ByteArray.mk #[]), .string (ByteArray.mk #[]), .string (ByteArray.mk #[])] →
 ∃ I3 : Nat → Int → World → Prop,
 (∃ n4, I3 n4 (0) w2) ∧
 ∀ (n4 : Nat) (us5 : Nat → Value) (x6 : Int) (w7 : World), I3 n4 x6 w7 →
 Br (decide ((x6 : Int) < 8))
 (Calls Tryz.prog n_strconv_Itoa #[.int .i64 x6] w7 (fun e w9 => ∃ (t10 : ByteArray), e = .returned (.string t10) ∧
 ((((ByteArray.mk #[119, 97, 116, 101, 114])).size + (t10).size : Nat) : Int) ≤ IntKind.i64.max ∧ (0 : Int) ≤ (IntKind.wrap .i64 (8 + x6)) ∧ ((IntKind.wrap .i64 (8 + x6)) : Int) < ((16 : Nat) : Int) ∧ (true = true ∧ Wr w9 (padd (some ⟨w0.heap.size, 0, none⟩) (((IntKind.wrap .i64 (8 + x6)) : Int).toNat * 1)) 1) ∧ (∀ w11 : World, w11 = setP w9 (padd (some ⟨w0.heap.size, 0, none⟩) (((IntKind.wrap .i64 (8 + x6)) : Int).toNat * 1)) [.string ((ByteArray.mk #[119, 97, 116, 101, 114]) ++ t10)] →
 ∃ n8, n8 < n4 ∧ I3 n8 ((IntKind.wrap .i64 (x6 + 1))) w11)))
 (∃ (t12 : ByteArray) (t13 : ByteArray) (t14 : ByteArray) (t15 : ByteArray) (t16 : ByteArray) (t17 : ByteArray) (t18 : ByteArray) (t19 : ByteArray) (t20 : ByteArray) (t21 : ByteArray) (t22 : ByteArray) (t23 : ByteArray) (t24 : ByteArray) (t25 : ByteArray) (t26 : ByteArray) (t27 : ByteArray), LoadL w7 (some ⟨w0.heap.size, 0, none⟩) 0 [.string t12, .string t13, .string t14, .string t15, .string t16, .string t17, .string t18, .string t19, .string t20, .string t21, .string t22, .string t23, .string t24, .string t25, .string t26, .string t27] ∧
 (true = true ∧ Wr w7 (some ⟨w.heap.size, 0, none⟩) 16) ∧ (∀ w28 : World, w28 = setP w7 (some ⟨w.heap.size, 0, none⟩) [.string t12, .string t13, .string t14, .string t15, .string t16, .string t17, .string t18, .string t19, .string t20, .string t21, .string t22, .string t23, .string t24, .string t25, .string t26, .string t27] →
 ∃ (t29 : ByteArray) (t30 : ByteArray) (t31 : ByteArray) (t32 : ByteArray) (t33 : ByteArray) (t34 : ByteArray) (t35 : ByteArray) (t36 : ByteArray) (t37 : ByteArray) (t38 : ByteArray) (t39 : ByteArray) (t40 : ByteArray) (t41 : ByteArray) (t42 : ByteArray) (t43 : ByteArray) (t44 : ByteArray), LoadL w28 (some ⟨w.heap.size, 0, none⟩) 0 [.string t29, .string t30, .string t31, .string t32, .string t33, .string t34, .string t35, .string t36, .string t37, .string t38, .string t39, .string t40, .string t41, .string t42, .string t43, .string t44] ∧
 R (.returned (.agg #[.string t29, .string t30, .string t31, .string t32, .string t33, .string t34, .string t35, .string t36, .string t37, .string t38, .string t39, .string t40, .string t41, .string t42, .string t43, .string t44])) w28)))
theorem block_names.vc {w} {R : Ending → World → Prop} (h : block_names.pre  w R) : Calls Tryz.prog n_block_names #[] w R :=
 calls_of_eq (an := ⟨[(3, ⟨[(4, .int .i64)], [], []⟩)], [], []⟩) (args := []) Tryz.noNG Tryz.mixed Tryz.func238 h (by kernel_rfl)
def runs_Len.pre (a0 : Sl) (w : World) (R : Ending → World → Prop) : Prop :=
 ∃ I0 : Nat → Int → Int → World → Prop,
 (∃ n1, I0 n1 (0) (0) w) ∧
 ∀ (n1 : Nat) (us2 : Nat → Value) (x3 : Int) (x4 : Int) (w5 : World), I0 n1 x3 x4 w5 →
 Br (decide ((x3 : Int) < ((a0.n : Nat) : Int)))
 (InB a0.a x3 a0.n ∧ ∃ (x7 : Int) (x8 : Int), LoadL w5 (padd a0.a ((x3 : Int).toNat * 2)) 0 [.int .i64 x7, .int .i64 x8] ∧
 ∀ w9 : World, w9 = w5.alloc (.cells #[.int .i64 0, .int .i64 0] 322) →
 ∀ w10 : World, w10 = w9.setRow w5.heap.size #[.int .i64 x7, .int .i64 x8] →
 ∃ n6, n6 < n1 ∧ I0 n6 ((IntKind.wrap .i64 (x3 + 1))) ((IntKind.wrap .i64 (x4 + x7))) w10)
 (R (.returned (.int .i64 x4)) w5)
theorem runs_Len.vc {a0 w} {R : Ending → World → Prop} (h : runs_Len.pre a0 w R) : Calls Tryz.prog n_runs_Len #[.slice a0.a a0.n a0.c] w R :=
 calls_of_eq (an := ⟨[(3, ⟨[(8, .int .i64), (3, .int .i64)], [], []⟩)], [], []⟩) (args := [.slice a0.a a0.n a0.c]) Tryz.noNG Tryz.mixed Tryz.func347 h (by kernel_rfl)
def runs_Fill.pre (a0 : Sl) (a1 : Int) (a2 : Int) (a3 : Int) (w : World) (R : Ending → World → Prop) : Prop :=
 Calls Tryz.prog n_runs_Len #[.slice a0.a a0.n a0.c] w (fun e w0 => ∃ (x1 : Int), e = .returned (.int .i64 x1) ∧
 Calls Tryz.prog n_block_May #[.int .i64 a3] w0 (fun e w2 => ∃ (b3 : Bool), e = .returned (.bool b3) ∧
 Br (!b3)
 (Calls Tryz.prog n_slices_Clone_Run #[.slice a0.a a0.n a0.c] w2 (fun e w4 => ∃ (s5 : Sl), e = .returned (.slice s5.a s5.n s5.c) ∧
 R (.returned (.slice s5.a s5.n s5.c)) w4))
 (Br (decide (((if x1 < (if 0 > a1 then 0 else a1) then x1 else (if 0 > a1 then 0 else a1)) : Int) ≥ (if x1 < (if 0 > a2 then 0 else a2) then x1 else (if 0 > a2 then 0 else a2))))
 (Calls Tryz.prog n_slices_Clone_Run #[.slice a0.a a0.n a0.c] w2 (fun e w6 => ∃ (s7 : Sl), e = .returned (.slice s7.a s7.n s7.c) ∧
 R (.returned (.slice s7.a s7.n s7.c)) w6))
 (Calls Tryz.prog n_runs_Cut #[.slice a0.a a0.n a0.c, .int .i64 0, .int .i64 (if x1 < (if 0 > a1 then 0 else a1) then x1 else (if 0 > a1 then 0 else a1))] w2 (fun e w8 => ∃ (s9 : Sl), e = .returned (.slice s9.a s9.n s9.c) ∧
 Calls Tryz.prog n_runs_Make #[.int .i64 (IntKind.wrap .i64 ((if x1 < (if 0 > a2 then 0 else a2) then x1 else (if 0 > a2 then 0 else a2)) - (if x1 < (if 0 > a1 then 0 else a1) then x1 else (if 0 > a1 then 0 else a1)))), .int .i64 a3] w8 (fun e w10 => ∃ (s11 : Sl), e = .returned (.slice s11.a s11.n s11.c) ∧
 Calls Tryz.prog n_runs_Cut #[.slice a0.a a0.n a0.c, .int .i64 (if x1 < (if 0 > a2 then 0 else a2) then x1 else (if 0 > a2 then 0 else a2)), .int .i64 x1] w10 (fun e w12 => ∃ (s13 : Sl), e = .returned (.slice s13.a s13.n s13.c) ∧
 ∀ w14 : World, w14 = w12.alloc (.cells #[.slice s9.a s9.n s9.c, .slice s11.a s11.n s11.c, .slice s13.a s13.n s13.c] 146) →
 Calls Tryz.prog n_runs_join #[.slice (some ⟨w12.heap.size, 0, none⟩) 3 3] w14 (fun e w15 => ∃ (s16 : Sl), e = .returned (.slice s16.a s16.n s16.c) ∧
 R (.returned (.slice s16.a s16.n s16.c)) w15))))))))
theorem runs_Fill.vc {a0 a1 a2 a3 w} {R : Ending → World → Prop} (h : runs_Fill.pre a0 a1 a2 a3 w R) : Calls Tryz.prog n_runs_Fill #[.slice a0.a a0.n a0.c, .int .i64 a1, .int .i64 a2, .int .i64 a3] w R :=
 calls_of_eq (an := ⟨[], [], []⟩) (args := [.slice a0.a a0.n a0.c, .int .i64 a1, .int .i64 a2, .int .i64 a3]) Tryz.noNG Tryz.mixed Tryz.func389 h (by kernel_rfl)
def code_Write.pre (a0 : Sl) (w : World) (R : Ending → World → Prop) : Prop :=
 ∃ I0 : Nat → Int → Int → World → Prop,
 (∃ n1, I0 n1 (0) (1048576) w) ∧
 ∀ (n1 : Nat) (us2 : Nat → Value) (x3 : Int) (x4 : Int) (w5 : World), I0 n1 x3 x4 w5 →
 Br (decide ((x3 : Int) < ((a0.n : Nat) : Int)))
 (InB a0.a x3 a0.n ∧ ∃ (x7 : Int) (x8 : Int), LoadL w5 (padd a0.a ((x3 : Int).toNat * 2)) 0 [.int .i64 x7, .int .i64 x8] ∧
 ∀ w9 : World, w9 = w5.alloc (.cells #[.int .i64 0, .int .i64 0] 322) →
 ∀ w10 : World, w10 = w9.setRow w5.heap.size #[.int .i64 x7, .int .i64 x8] →
 Br (decide ((x7 : Int) < 1))
 (R (.returned (.tuple #[.slice none 0 0, .int .i64 1])) w10)
 (Br (decide (((IntKind.wrap .i64 (x4 - x7)) : Int) < 0))
 (R (.returned (.tuple #[.slice none 0 0, .int .i64 1])) w10)
 (∃ n6, n6 < n1 ∧ I0 n6 ((IntKind.wrap .i64 (x3 + 1))) ((IntKind.wrap .i64 (x4 - x7))) w10)))
 (Calls Tryz.prog n_runs_Len #[.slice a0.a a0.n a0.c] w5 (fun e w11 => ∃ (x12 : Int), e = .returned (.int .i64 x12) ∧
 Calls Tryz.prog n_runs_May #[.slice a0.a a0.n a0.c, .int .i64 x12] w11 (fun e w13 => ∃ (b14 : Bool), e = .returned (.bool b14) ∧
 Br (!b14)
 (R (.returned (.tuple #[.slice none 0 0, .int .i64 1])) w13)
 (∃ I15 : Nat → Int → Sl → World → Prop,
 (∃ n16, I15 n16 (0) ⟨none, 0, 0⟩ w13) ∧
 ∀ (n16 : Nat) (us17 : Nat → Value) (x18 : Int) (s19 : Sl) (w20 : World), I15 n16 x18 s19 w20 →
 Br (decide ((x18 : Int) < ((a0.n : Nat) : Int)))
 (InB a0.a x18 a0.n ∧ ∃ (x22 : Int) (x23 : Int), LoadL w20 (padd a0.a ((x18 : Int).toNat * 2)) 0 [.int .i64 x22, .int .i64 x23] ∧
 ∀ w24 : World, w24 = w20.alloc (.cells #[.int .i64 0, .int .i64 0] 322) →
 ∀ w25 : World, w25 = w24.setRow w20.heap.size #[.int .i64 x22, .int .i64 x23] →
 ∀ w26 : World, w26 = w25.drew.alloc (.cells #[.int .u8 (IntKind.wrap .u8 x23)] 5) →
 AppPre 1 1 w26 ⟨s19.a, s19.n, s19.c⟩ 1 [.int .u8 (IntKind.wrap .u8 x23)] ∧ ∀ (s27 : Sl) (w28 : World), AppRes 5 1 w26 ⟨s19.a, s19.n, s19.c⟩ 1 [.int .u8 (IntKind.wrap .u8 x23)] s27 w28 → w28.heap[w20.heap.size]? = w26.heap[w20.heap.size]? ∧ w28.heap[w25.drew.heap.size]? = w26.heap[w25.drew.heap.size]? ∧
 LoadL w28 (some ⟨w20.heap.size, 0, none⟩) 0 [.int .i64 x22] ∧ LoadL w28 (some ⟨w20.heap.size, 1, none⟩) 0 [.int .i64 x23] ∧ Calls Tryz.prog n_code_Number #[.int .i64 x22] w28 (fun e w29 => ∃ (s30 : Sl), e = .returned (.slice s30.a s30.n s30.c) ∧ w29.heap[w20.heap.size]? = w28.heap[w20.heap.size]? ∧ w29.heap[w25.drew.heap.size]? = w28.heap[w25.drew.heap.size]? ∧
 LoadL w29 (some ⟨w20.heap.size, 1, none⟩) 0 [.int .i64 x23] ∧ ∃ l31 : List Value, Rd w29 s30.a l31 ∧ AppPre 1 1 w29 ⟨s27.a, s27.n, s27.c⟩ s30.n l31 ∧ ∀ (s32 : Sl) (w33 : World), AppRes 5 1 w29 ⟨s27.a, s27.n, s27.c⟩ s30.n l31 s32 w33 → w33.heap[w20.heap.size]? = w29.heap[w20.heap.size]? ∧ w33.heap[w25.drew.heap.size]? = w29.heap[w25.drew.heap.size]? ∧
 LoadL w33 (some ⟨w20.heap.size, 1, none⟩) 0 [.int .i64 x23] ∧ ∃ n21, n21 < n16 ∧ I15 n21 ((IntKind.wrap .i64 (x18 + 1))) ⟨s32.a, s32.n, s32.c⟩ w33))
 (R (.returned (.tuple #[.slice s19.a s19.n s19.c, .int .i64 0])) w20)))))
theorem code_Write.vc {a0 w} {R : Ending → World → Prop} (h : code_Write.pre a0 w R) : Calls Tryz.prog n_code_Write #[.slice a0.a a0.n a0.c] w R :=
 calls_of_eq (an := ⟨[(13, ⟨[(35, .int .i64), (7, .slice)], [], []⟩), (3, ⟨[(12, .int .i64), (4, .int .i64)], [], []⟩)], [], []⟩) (args := [.slice a0.a a0.n a0.c]) Tryz.noNG Tryz.mixed Tryz.func295 h (by kernel_rfl)
def ref01_Around.pre (a0 : Int) (a1 : Int) (w : World) (R : Ending → World → Prop) : Prop :=
 Br (decide ((a0 : Int) < 0))
 (AndL (nzC a1) (R (.returned (.int .i64 (Int.tmod (IntKind.wrap .i64 (0 - (IntKind.wrap .i64 (a0 + 1)))) a1))) w))
 (AndL (nzC a1) (R (.returned (.int .i64 (Int.tmod a0 a1))) w))
theorem ref01_Around.vc {a0 a1 w} {R : Ending → World → Prop} (h : ref01_Around.pre a0 a1 w R) : Calls Tryz.prog n_ref01_Around #[.int .i64 a0, .int .i64 a1] w R :=
 calls_of_eq (an := ⟨[], [], []⟩) (args := [.int .i64 a0, .int .i64 a1]) Tryz.noNG Tryz.mixed Tryz.func12 h (by kernel_rfl)
def disk_Disk_now.pre (a0 : Addr) (w : World) (R : Ending → World → Prop) : Prop :=
 ∃ (m0 : Option Nat), ld w (padd (some a0) 3) = some (.map m0) ∧
 Calls Tryz.prog n_maps_Clone_byte #[.map m0] w (fun e w1 => ∃ (m2 : Option Nat), e = .returned (.map m2) ∧
 ∃ (s3 : Sl), ld w1 (padd (some a0) 4) = some (.slice s3.a s3.n s3.c) ∧
 ∃ I4 : Nat → Int → World → Prop,
 (∃ n5, I4 n5 (0) w1) ∧
 ∀ (n5 : Nat) (us6 : Nat → Value) (x7 : Int) (w8 : World), I4 n5 x7 w8 →
 Br (decide ((x7 : Int) < ((s3.n : Nat) : Int)))
 (InB s3.a x7 s3.n ∧ ∃ (x10 : Int) (s11 : Sl), LoadL w8 (padd s3.a ((x7 : Int).toNat * 2)) 0 [.int .i64 x10, .slice s11.a s11.n s11.c] ∧
 ∀ w12 : World, w12 = w8.alloc (.cells #[.int .i64 0, .slice none 0 0] 337) →
 ∀ w13 : World, w13 = w12.setRow w8.heap.size #[.int .i64 x10, .slice s11.a s11.n s11.c] →
 ∃ (G14 : Value → Prop) (kvs15 : List (Value × Value)), KeyOk Tryz.prog 3 G14 ∧ (m2 : Option Nat).isSome = true ∧ MapIs G14 w13 m2 kvs15 ∧ G14 (.int .i64 x10) ∧ ∀ w16 : World, Rec ((m2 : Option Nat).getD 0) w13 w16 → MapIs G14 w16 m2 (insL kvs15 (.int .i64 x10) (.slice s11.a s11.n s11.c)) →
 ∃ n9, n9 < n5 ∧ I4 n9 ((IntKind.wrap .i64 (x7 + 1))) w16)
 (R (.returned (.map m2)) w8))
theorem disk_Disk_now.vc {a0 w} {R : Ending → World → Prop} (h : disk_Disk_now.pre a0 w R) : Calls Tryz.prog n_disk_Disk_now #[.pointer (some a0)] w R :=
 calls_of_eq (an := ⟨[(3, ⟨[(16, .int .i64)], [], []⟩)], [], []⟩) (args := [.pointer (some a0)]) Tryz.noNG Tryz.mixed Tryz.func333 h (by kernel_rfl)
def slices_Clone_byte.pre (a0 : Sl) (w : World) (R : Ending → World → Prop) : Prop :=
 Br (a0.a).isNone
 (R (.returned (.slice none 0 0)) w)
 (∀ w0 : World, w0 = w.alloc (.cells #[] 5) →
 ∃ l1 : List Value, Rd w0 a0.a l1 ∧ AppPre 1 1 w0 ⟨(some ⟨w.heap.size, 0, none⟩), 0, 0⟩ a0.n l1 ∧ ∀ (s2 : Sl) (w3 : World), AppRes 5 1 w0 ⟨(some ⟨w.heap.size, 0, none⟩), 0, 0⟩ a0.n l1 s2 w3 → w3.heap[w.heap.size]? = w0.heap[w.heap.size]? ∧
 R (.returned (.slice s2.a s2.n s2.c)) w3)
theorem slices_Clone_byte.vc {a0 w} {R : Ending → World → Prop} (h : slices_Clone_byte.pre a0 w R) : Calls Tryz.prog n_slices_Clone_byte #[.slice a0.a a0.n a0.c] w R :=
 calls_of_eq (an := ⟨[], [], []⟩) (args := [.slice a0.a a0.n a0.c]) Tryz.noNG Tryz.mixed Tryz.func334 h (by kernel_rfl)
def crc_Take.pre (a0 : Sl) (w : World) (R : Ending → World → Prop) : Prop :=
 Br (decide ((((a0.n : Nat) : Int) : Int) < 2))
 (R (.returned (.tuple #[.slice none 0 0, .int .i64 3])) w)
 (Calls Tryz.prog 370 #[.slice a0.a a0.n a0.c] w (fun e w0 => ∃ (b1 : Bool), e = .returned (.bool b1) ∧
 Br (!b1)
 (R (.returned (.tuple #[.slice none 0 0, .int .i64 4])) w0)
 ((0 : Int) ≤ (IntKind.wrap .i64 (((a0.n : Nat) : Int) - 2)) ∧ (IntKind.wrap .i64 (((a0.n : Nat) : Int) - 2)) ≤ ((a0.c : Nat) : Int) ∧ Calls Tryz.prog n_slices_Clone_byte #[.slice (slBase a0.a (0) (a0.c) 1) (((IntKind.wrap .i64 (((a0.n : Nat) : Int) - 2)) : Int).toNat - 0) (a0.c - 0)] w0 (fun e w2 => ∃ (s3 : Sl), e = .returned (.slice s3.a s3.n s3.c) ∧
 R (.returned (.tuple #[.slice s3.a s3.n s3.c, .int .i64 0])) w2))))
theorem crc_Take.vc {a0 w} {R : Ending → World → Prop} (h : crc_Take.pre a0 w R) : Calls Tryz.prog n_crc_Take #[.slice a0.a a0.n a0.c] w R :=
 calls_of_eq (an := ⟨[], [], []⟩) (args := [.slice a0.a a0.n a0.c]) Tryz.noNG Tryz.mixed Tryz.func335 h (by kernel_rfl)
def gen_Cells_1.pre (a0 : Value) (c0 : Addr) (c1 : Addr) (w : World) (R : Ending → World → Prop) : Prop :=
 ∀ w0 : World, w0 = w.alloc (.cells #[.int .i64 0, .int .i64 0, .int .i64 0, .int .i64 0, .int .i64 0, .int .i64 0, .int .i64 0, .int .i64 0, .int .i64 0, .int .i64 0, .int .i64 0, .int .i64 0, .int .i64 0, .int .i64 0, .int .i64 0, .int .i64 0, .int .i64 0, .int .i64 0, .int .i64 0, .int .i64 0, .int .i64 0, .int .i64 0, .int .i64 0, .int .i64 0, .int .i64 0, .int .i64 0, .int .i64 0, .int .i64 0, .int .i64 0, .int .i64 0, .int .i64 0, .int .i64 0, .int .i64 0, .int .i64 0, .int .i64 0, .int .i64 0, .int .i64 0, .int .i64 0, .int .i64 0, .int .i64 0, .int .i64 0, .int .i64 0, .int .i64 0, .int .i64 0, .int .i64 0, .int .i64 0, .int .i64 0, .int .i64 0, .int .i64 0, .int .i64 0, .int .i64 0, .int .i64 0, .int .i64 0, .int .i64 0, .int .i64 0, .int .i64 0, .int .i64 0, .int .i64 0, .int .i64 0, .int .i64 0, .int .i64 0, .int .i64 0, .int .i64 0, .int .i64 0, .int .i64 0, .int .i64 0, .int .i64 0, .int .i64 0, .int .i64 0, .int .i64 0, .int .i64 0, .int .i64 0, .int .i64 0, .int .i64 0, .int .i64 0, .int .i64 0, .int .i64 0, .int .i64 0, .int .i64 0, .int .i64 0, .int .i64 0, .int .i64 0, .int .i64 0, .int .i64 0, .int .i64 0, .int .i64 0, .int .i64 0, .int .i64 0, .int .i64 0, .int .i64 0, .int .i64 0, .int .i64 0, .int .i64 0, .int .i64 0, .int .i64 0, .int .i64 0, .int .i64 0, .int .i64 0, .int .i64 0, .int .i64 0, .int .i64 0, .int .i64 0, .int .i64 0, .int .i64 0, .int .i64 0, .int .i64 0, .int .i64 0, .int .i64 0, .int .i64 0, .int .i64 0, .int .i64 0, .int .i64 0, .int .i64 0, .int .i64 0, .int .i64 0, .int .i64 0, .int .i64 0, .int .i64 0, .int .i64 0, .int .i64 0, .int .i64 0, .int .i64 0, .int .i64 0, .int .i64 0, .int .i64 0, .int .i64 0, .int .i64 0, .int .i64 0, .int .i64 0, .int .i64 0, .int .i64 0, .int .i64 0, .int .i64 0, .int .i64 0, .int .i64 0, .int .i64 0, .int .i64 0, .int .i64 0, .int .i64 0, .int .i64 0, .int .i64 0, .int .i64 0, .int .i64 0, .int .i64 0, .int .i64 0, .int .i64 0, .int .i64 0, .int .i64 0, .int .i64 0, .int .i64 0, .int .i64 0, .int .i64 0, .int .i64 0, .int .i64 0, .int .i64 0, .int .i64 0, .int .i64 0, .int .i64 0, .int .i64 0, .int .i64 0, .int .i64 0, .int .i64 0, .int .i64 0, .int .i64 0, .int .i64 0, .int .i64 0, .int .i64 0, .int .i64 0, .int .i64 0, .int .i64 0, .int .i64 0, .int .i64 0, .int .i64 0, .int .i64 0, .int .i64 0, .int .i64 0, .int .i64 0, .int .i64 0, .int .i64 0, .int .i64 0, .int .i64 0, .int .i64 0, .int .i64 0, .int .i64 0, .int .i64 0, .int .i64 0, .int .i64 0, .int .i64 0, .int .i64 0, .int .i64 0, .int .i64 0, .int .i64 0, .int .i64 0, .int .i64 0, .int .i64 0, .int .i64 0, .int .i64 0, .int .i64 0, .int .i64 0, .int .i64 0, .int .i64 0, .int .i64 0, .int .i64 0, .int .i64 0, .int .i64 0, .int .i64 0, .int .i64 0, .int .i64 0, .int .i64 0, .int .i64 0, .int .i64 0, .int .i64 0, .int .i64 0, .int .i64 0, .int .i64 0, .int .i64 0, .int .i64 0, .int .i64 0, .int .i64 0, .int .i64 0, .int .i64 0, .int .i64 0, .int .i64 0, .int .i64 0, .int .i64 0, .int .i64 0, .int .i64 0, .int .i64 0, .int .i64 0, .int .i64 0, .int .i64 0, .int .i64 0, .int .i64 0, .int .i64 0, .int .i64 0, .int .i64 0, .int .i64 0, .int .i64 0, .int .i64 0, .int .i64 0, .int .i64 0, .int .i64 0, .int .i64 0, .int .i64 0, .int .i64 0, .int .i64 0, .int .i64 0, .int .i64 0, .int .i64 0, .int .i64 0, .int .i64 0, .int .i64 0, .int .i64 0, .int .i64 0, .int .i64 0, .int .i64 0] 364) →
 ∃ I1 : Nat → Int → World → Prop,
 (∃ n2, I1 n2 (0) w0) ∧
 ∀ (n2 : Nat) (us3 : Nat → Value) (x4 : Int) (w5 : World), I1 n2 x4 w5 →
 Br (decide ((x4 : Int) < 256))
 (∃ (x7 : Int) (x8 : Int), LoadL w5 (some c0) 0 [.int .i64 x7, .int .i64 x8] ∧
 Calls Tryz.prog n_cell_From #[.agg #[.int .i64 x7, .int .i64 x8], .int .i64 x4] w5 (fun e w9 => ∃ (x10 : Int) (x11 : Int) (x12 : Int) (b13 : Bool), e = .returned (.tuple #[.agg #[.int .i64 x10, .int .i64 x11, .int .i64 x12], .bool b13]) ∧
 ∀ w14 : World, w14 = w9.alloc (.cells #[.int .i64 0, .int .i64 0, .int .i64 0] 23) →
 ∀ w15 : World, w15 = w14.setRow w9.heap.size #[.int .i64 x10, .int .i64 x11, .int .i64 x12] →
 ∃ (x16 : Int), ld w15 (some c1) = some (.int .i64 x16) ∧
 Calls Tryz.prog n_gen_Ground #[.int .i64 x16, .int .i64 x10, .int .i64 x12] w15 (fun e w17 => ∃ (x18 : Int), e = .returned (.int .i64 x18) ∧ w17.heap[w9.heap.size]? = w15.heap[w9.heap.size]? ∧
 (0 : Int) ≤ x4 ∧ (x4 : Int) < ((256 : Nat) : Int) ∧ (true = true ∧ Wr w17 (padd (some ⟨w.heap.size, 0, none⟩) ((x4 : Int).toNat * 1)) 1) ∧ pblk (padd (some ⟨w.heap.size, 0, none⟩) ((x4 : Int).toNat * 1)) ≠ some w9.heap.size ∧ (∀ w19 : World, w19 = setP w17 (padd (some ⟨w.heap.size, 0, none⟩) ((x4 : Int).toNat * 1)) [.int .i64 x18] →
 ∃ n6, n6 < n2 ∧ I1 n6 ((IntKind.wrap .i64 (x4 + 1))) w19))))
 (∃ I20 : Nat → Int → World → Prop,
 (∃ n21, I20 n21 (0) w5) ∧
 ∀ (n21 : Nat) (us22 : Nat → Value) (x23 : Int) (w24 : World), I20 n21 x23 w24 →
 Br (decide ((x23 : Int) < 8192))
 ((0 : Int) ≤ (Int.tmod x23 256) ∧ ((Int.tmod x23 256) : Int) < ((256 : Nat) : Int) ∧ ∃ (x26 : Int), ld w24 (padd (some ⟨w.heap.size, 0, none⟩) (((Int.tmod x23 256) : Int).toNat * 1)) = some (.int .i64 x26) ∧
 Calls Tryz.prog n_gen_of #[.int .i64 (IntKind.wrap .i64 (Int.tdiv x23 256)), .int .i64 x26] w24 (fun e w27 => ∃ (x28 : Int), e = .returned (.int .i64 x28) ∧
 callV Tryz.prog a0 [.int .i64 x28] w27 (fun e w29 => ∃ (b30 : Bool), e = .returned (.bool b30) ∧
 Br (!b30)
 (R (.returned (.tuple #[])) w29)
 (∃ n25, n25 < n21 ∧ I20 n25 ((IntKind.wrap .i64 (x23 + 1))) w29))))
 (R (.returned (.tuple #[])) w24))
theorem gen_Cells_1.vc {a0 c0 c1 w} {R : Ending → World → Prop} (h : gen_Cells_1.pre a0 c0 c1 w R) : Calls Tryz.prog n_gen_Cells_1 #[a0, .pointer (some c0), .pointer (some c1)] w R :=
 calls_of_eq (an := ⟨[(8, ⟨[(27, .int .i64)], [], []⟩), (2, ⟨[(9, .int .i64)], [], []⟩)], [], []⟩) (args := [a0, .pointer (some c0), .pointer (some c1)]) Tryz.noNG Tryz.mixed Tryz.func337 h (by kernel_rfl)
def cell_From.pre (a0_0 : Int) (a0_1 : Int) (a1 : Int) (w : World) (R : Ending → World → Prop) : Prop :=
 ∀ w0 : World, w0 = w.alloc (.cells #[.int .i64 a0_0, .int .i64 a0_1] 139) →
 ∀ w1 : World, w1 = w0.alloc (.cells #[.int .i64 0, .int .i64 0, .int .i64 0] 23) →
 Br (decide ((a1 : Int) < 0))
 (∀ w2 : World, w2 = w1.setRow w0.heap.size #[.int .i64 0, .int .i64 0, .int .i64 0] →
 R (.returned (.tuple #[.agg #[.int .i64 0, .int .i64 0, .int .i64 0], .bool false])) w2)
 (Br (decide ((a1 : Int) ≥ 8192))
 (∀ w3 : World, w3 = w1.setRow w0.heap.size #[.int .i64 0, .int .i64 0, .int .i64 0] →
 R (.returned (.tuple #[.agg #[.int .i64 0, .int .i64 0, .int .i64 0], .bool false])) w3)
 (∀ w4 : World, w4 = w1.setRow w0.heap.size #[.int .i64 (IntKind.wrap .i64 ((IntKind.wrap .i64 (a0_0 * 16)) + (Int.tmod a1 16))), .int .i64 (IntKind.wrap .i64 (Int.tdiv a1 256)), .int .i64 (IntKind.wrap .i64 ((IntKind.wrap .i64 (a0_1 * 16)) + (Int.tmod (IntKind.wrap .i64 (Int.tdiv a1 16)) 16)))] →
 R (.returned (.tuple #[.agg #[.int .i64 (IntKind.wrap .i64 ((IntKind.wrap .i64 (a0_0 * 16)) + (Int.tmod a1 16))), .int .i64 (IntKind.wrap .i64 (Int.tdiv a1 256)), .int .i64 (IntKind.wrap .i64 ((IntKind.wrap .i64 (a0_1 * 16)) + (Int.tmod (IntKind.wrap .i64 (Int.tdiv a1 16)) 16)))], .bool true])) w4))
theorem cell_From.vc {a0_0 a0_1 a1 w} {R : Ending → World → Prop} (h : cell_From.pre a0_0 a0_1 a1 w R) : Calls Tryz.prog n_cell_From #[.agg #[.int .i64 a0_0, .int .i64 a0_1], .int .i64 a1] w R :=
 calls_of_eq (an := ⟨[], [], []⟩) (args := [.agg #[.int .i64 a0_0, .int .i64 a0_1], .int .i64 a1]) Tryz.noNG Tryz.mixed Tryz.func338 h (by kernel_rfl)
def gen_Ground.pre (a0 : Int) (a1 : Int) (a2 : Int) (w : World) (R : Ending → World → Prop) : Prop :=
 ∀ w0 : World, w0 = w.alloc (.cells #[.int .i64 a0] 3) →
 Calls Tryz.prog n_cell_Div #[.int .i64 a1, .int .i64 8] w0 (fun e w1 => ∃ (x2 : Int), e = .returned (.int .i64 x2) ∧ w1.heap[w.heap.size]? = w0.heap[w.heap.size]? ∧
 Calls Tryz.prog n_cell_Div #[.int .i64 a2, .int .i64 8] w1 (fun e w3 => ∃ (x4 : Int), e = .returned (.int .i64 x4) ∧ w3.heap[w.heap.size]? = w1.heap[w.heap.size]? ∧
 Calls Tryz.prog n_cell_Mod #[.int .i64 a1, .int .i64 8] w3 (fun e w5 => ∃ (x6 : Int), e = .returned (.int .i64 x6) ∧ w5.heap[w.heap.size]? = w3.heap[w.heap.size]? ∧
 Calls Tryz.prog n_cell_Mod #[.int .i64 a2, .int .i64 8] w5 (fun e w7 => ∃ (x8 : Int), e = .returned (.int .i64 x8) ∧ w7.heap[w.heap.size]? = w5.heap[w.heap.size]? ∧
 Calls Tryz.prog n_gen_Ground_1 #[.int .i64 x2, .int .i64 x4, .int .i64 (IntKind.wrap .i64 ((IntKind.wrap .i64 (8 - x6)) * (IntKind.wrap .i64 (8 - x8)))), .pointer (some ⟨w.heap.size, 0, none⟩)] w7 (fun e w9 => ∃ (x10 : Int), e = .returned (.int .i64 x10) ∧
 Calls Tryz.prog n_gen_Ground_1 #[.int .i64 (IntKind.wrap .i64 (x2 + 1)), .int .i64 x4, .int .i64 (IntKind.wrap .i64 (x6 * (IntKind.wrap .i64 (8 - x8)))), .pointer (some ⟨w.heap.size, 0, none⟩)] w9 (fun e w11 => ∃ (x12 : Int), e = .returned (.int .i64 x12) ∧
 Calls Tryz.prog n_gen_Ground_1 #[.int .i64 x2, .int .i64 (IntKind.wrap .i64 (x4 + 1)), .int .i64 (IntKind.wrap .i64 ((IntKind.wrap .i64 (8 - x6)) * x8)), .pointer (some ⟨w.heap.size, 0, none⟩)] w11 (fun e w13 => ∃ (x14 : Int), e = .returned (.int .i64 x14) ∧
 Calls Tryz.prog n_gen_Ground_1 #[.int .i64 (IntKind.wrap .i64 (x2 + 1)), .int .i64 (IntKind.wrap .i64 (x4 + 1)), .int .i64 (IntKind.wrap .i64 (x6 * x8)), .pointer (some ⟨w.heap.size, 0, none⟩)] w13 (fun e w15 => ∃ (x16 : Int), e = .returned (.int .i64 x16) ∧
 R (.returned (.int .i64 (IntKind.wrap .i64 (6 + (IntKind.wrap .i64 (Int.tdiv (IntKind.wrap .i64 ((IntKind.wrap .i64 ((IntKind.wrap .i64 (x10 + x12)) + x14)) + x16)) 64)))))) w15))))))))
theorem gen_Ground.vc {a0 a1 a2 w} {R : Ending → World → Prop} (h : gen_Ground.pre a0 a1 a2 w R) : Calls Tryz.prog n_gen_Ground #[.int .i64 a0, .int .i64 a1, .int .i64 a2] w R :=
 calls_of_eq (an := ⟨[], [], []⟩) (args := [.int .i64 a0, .int .i64 a1, .int .i64 a2]) Tryz.noNG Tryz.mixed Tryz.func339 h (by kernel_rfl)
def gen_of.pre (a0 : Int) (a1 : Int) (w : World) (R : Ending → World → Prop) : Prop :=
 Br (decide ((a0 : Int) < 0))
 (R (.returned (.int .i64 0)) w)
 (Br (decide ((a0 : Int) ≥ 32))
 (R (.returned (.int .i64 0)) w)
 (Br ((a0 : Int) == 0)
 (R (.returned (.int .i64 1)) w)
 (Br (decide ((a0 : Int) < (IntKind.wrap .i64 (a1 - 3))))
 (R (.returned (.int .i64 1)) w)
 (Br (decide ((a0 : Int) < (IntKind.wrap .i64 (a1 - 1))))
 (R (.returned (.int .i64 2)) w)
 (Br ((a0 : Int) == (IntKind.wrap .i64 (a1 - 1)))
 (Br (decide ((a1 : Int) > 9))
 (R (.returned (.int .i64 2)) w)
 (Br ((a0 : Int) == (IntKind.wrap .i64 (a1 - 1)))
 (R (.returned (.int .i64 3)) w)
 (Br (decide ((a0 : Int) < 9))
 (R (.returned (.int .i64 8)) w)
 (R (.returned (.int .i64 0)) w))))
 (Br ((a0 : Int) == (IntKind.wrap .i64 (a1 - 1)))
 (R (.returned (.int .i64 3)) w)
 (Br (decide ((a0 : Int) < 9))
 (R (.returned (.int .i64 8)) w)
 (R (.returned (.int .i64 0)) w))))))))
theorem gen_of.vc {a0 a1 w} {R : Ending → World → Prop} (h : gen_of.pre a0 a1 w R) : Calls Tryz.prog n_gen_of #[.int .i64 a0, .int .i64 a1] w R :=
 calls_of_eq (an := ⟨[], [], []⟩) (args := [.int .i64 a0, .int .i64 a1]) Tryz.noNG Tryz.mixed Tryz.func340 h (by kernel_rfl)
def runs_push.pre (a0 : Sl) (a1_0 : Int) (a1_1 : Int) (w : World) (R : Ending → World → Prop) : Prop :=
 ∀ w0 : World, w0 = w.alloc (.cells #[.int .i64 a1_0, .int .i64 a1_1] 322) →
 Br (decide ((a1_0 : Int) < 1))
 (R (.returned (.slice a0.a a0.n a0.c)) w0)
 (Br (decide (((IntKind.wrap .i64 (((a0.n : Nat) : Int) - 1)) : Int) ≥ 0))
 (InB a0.a (IntKind.wrap .i64 (((a0.n : Nat) : Int) - 1)) a0.n ∧ AndL (nnC (padd a0.a (((IntKind.wrap .i64 (((a0.n : Nat) : Int) - 1)) : Int).toNat * 2))) (∃ (x1 : Int), ld w0.drew (padd (padd a0.a (((IntKind.wrap .i64 (((a0.n : Nat) : Int) - 1)) : Int).toNat * 2)) 1) = some (.int .i64 x1) ∧
 Br ((x1 : Int) == a1_1)
 (InB a0.a (IntKind.wrap .i64 (((a0.n : Nat) : Int) - 1)) a0.n ∧ AndL (nnC (padd a0.a (((IntKind.wrap .i64 (((a0.n : Nat) : Int) - 1)) : Int).toNat * 2))) (∃ (x2 : Int), ld w0.drew.drew (padd (padd a0.a (((IntKind.wrap .i64 (((a0.n : Nat) : Int) - 1)) : Int).toNat * 2)) 0) = some (.int .i64 x2) ∧
 InB a0.a (IntKind.wrap .i64 (((a0.n : Nat) : Int) - 1)) a0.n ∧ AndL (nnC (padd a0.a (((IntKind.wrap .i64 (((a0.n : Nat) : Int) - 1)) : Int).toNat * 2))) ((((padd (padd a0.a (((IntKind.wrap .i64 (((a0.n : Nat) : Int) - 1)) : Int).toNat * 2)) 0)).isSome = true ∧ Wr w0.drew.drew (padd (padd a0.a (((IntKind.wrap .i64 (((a0.n : Nat) : Int) - 1)) : Int).toNat * 2)) 0) 1) ∧ pblk (padd (padd a0.a (((IntKind.wrap .i64 (((a0.n : Nat) : Int) - 1)) : Int).toNat * 2)) 0) ≠ some w.heap.size ∧ (∀ w3 : World, w3 = setP w0.drew.drew (padd (padd a0.a (((IntKind.wrap .i64 (((a0.n : Nat) : Int) - 1)) : Int).toNat * 2)) 0) [.int .i64 (IntKind.wrap .i64 (x2 + a1_0))] →
 R (.returned (.slice a0.a a0.n a0.c)) w3))))
 (∀ w4 : World, w4 = w0.drew.alloc (.cells #[.int .i64 a1_0, .int .i64 a1_1] 322) →
 AppPre 16 2 w4 ⟨a0.a, a0.n, a0.c⟩ 1 [.int .i64 a1_0, .int .i64 a1_1] ∧ ∀ (s5 : Sl) (w6 : World), AppRes 322 2 w4 ⟨a0.a, a0.n, a0.c⟩ 1 [.int .i64 a1_0, .int .i64 a1_1] s5 w6 → w6.heap[w.heap.size]? = w4.heap[w.heap.size]? ∧ w6.heap[w0.drew.heap.size]? = w4.heap[w0.drew.heap.size]? ∧
 R (.returned (.slice s5.a s5.n s5.c)) w6)))
 (∀ w7 : World, w7 = w0.drew.alloc (.cells #[.int .i64 a1_0, .int .i64 a1_1] 322) →
 AppPre 16 2 w7 ⟨a0.a, a0.n, a0.c⟩ 1 [.int .i64 a1_0, .int .i64 a1_1] ∧ ∀ (s8 : Sl) (w9 : World), AppRes 322 2 w7 ⟨a0.a, a0.n, a0.c⟩ 1 [.int .i64 a1_0, .int .i64 a1_1] s8 w9 → w9.heap[w.heap.size]? = w7.heap[w.heap.size]? ∧ w9.heap[w0.drew.heap.size]? = w7.heap[w0.drew.heap.size]? ∧
 R (.returned (.slice s8.a s8.n s8.c)) w9))
theorem runs_push.vc {a0 a1_0 a1_1 w} {R : Ending → World → Prop} (h : runs_push.pre a0 a1_0 a1_1 w R) : Calls Tryz.prog n_runs_push #[.slice a0.a a0.n a0.c, .agg #[.int .i64 a1_0, .int .i64 a1_1]] w R :=
 calls_of_eq (an := ⟨[], [], []⟩) (args := [.slice a0.a a0.n a0.c, .agg #[.int .i64 a1_0, .int .i64 a1_1]]) Tryz.noNG Tryz.mixed Tryz.func341 h (by kernel_rfl)
def strconv_Itoa.pre (a0 : Int) (w : World) (R : Ending → World → Prop) : Prop :=
 Calls Tryz.prog n_internal_strconv_Itoa #[.int .i64 a0] w (fun e w0 => ∃ (t1 : ByteArray), e = .returned (.string t1) ∧
 R (.returned (.string t1)) w0)
theorem strconv_Itoa.vc {a0 w} {R : Ending → World → Prop} (h : strconv_Itoa.pre a0 w R) : Calls Tryz.prog n_strconv_Itoa #[.int .i64 a0] w R :=
 calls_of_eq (an := ⟨[], [], []⟩) (args := [.int .i64 a0]) Tryz.noNG Tryz.mixed Tryz.func224 h (by kernel_rfl)
def runs_join.pre (a0 : Sl) (w : World) (R : Ending → World → Prop) : Prop :=
 ∃ I0 : Nat → Int → Sl → World → Prop,
 (∃ n1, I0 n1 (0) ⟨none, 0, 0⟩ w) ∧
 ∀ (n1 : Nat) (us2 : Nat → Value) (x3 : Int) (s4 : Sl) (w5 : World), I0 n1 x3 s4 w5 →
 Br (decide ((x3 : Int) < ((a0.n : Nat) : Int)))
 (InB a0.a x3 a0.n ∧ ∃ (s7 : Sl), ld w5 (padd a0.a ((x3 : Int).toNat * 1)) = some (.slice s7.a s7.n s7.c) ∧
 ∃ I8 : Nat → Int → Sl → World → Prop,
 (∃ n9, I8 n9 (0) ⟨s4.a, s4.n, s4.c⟩ w5) ∧
 ∀ (n9 : Nat) (us10 : Nat → Value) (x11 : Int) (s12 : Sl) (w13 : World), I8 n9 x11 s12 w13 →
 Br (decide ((x11 : Int) < ((s7.n : Nat) : Int)))
 (InB s7.a x11 s7.n ∧ ∃ (x15 : Int) (x16 : Int), LoadL w13 (padd s7.a ((x11 : Int).toNat * 2)) 0 [.int .i64 x15, .int .i64 x16] ∧
 ∀ w17 : World, w17 = w13.alloc (.cells #[.int .i64 0, .int .i64 0] 322) →
 ∀ w18 : World, w18 = w17.setRow w13.heap.size #[.int .i64 x15, .int .i64 x16] →
 Calls Tryz.prog n_runs_push #[.slice s12.a s12.n s12.c, .agg #[.int .i64 x15, .int .i64 x16]] w18 (fun e w19 => ∃ (s20 : Sl), e = .returned (.slice s20.a s20.n s20.c) ∧ w19.heap[w13.heap.size]? = w18.heap[w13.heap.size]? ∧
 ∃ n14, n14 < n9 ∧ I8 n14 ((IntKind.wrap .i64 (x11 + 1))) ⟨s20.a, s20.n, s20.c⟩ w19))
 (∃ n6, n6 < n1 ∧ I0 n6 ((IntKind.wrap .i64 (x3 + 1))) ⟨s12.a, s12.n, s12.c⟩ w13))
 (R (.returned (.slice s4.a s4.n s4.c)) w5)
theorem runs_join.vc {a0 w} {R : Ending → World → Prop} (h : runs_join.pre a0 w R) : Calls Tryz.prog n_runs_join #[.slice a0.a a0.n a0.c] w R :=
 calls_of_eq (an := ⟨[(6, ⟨[(16, .int .i64), (3, .slice)], [], []⟩), (3, ⟨[(10, .int .i64), (3, .slice)], [], []⟩)], [], []⟩) (args := [.slice a0.a a0.n a0.c]) Tryz.noNG Tryz.mixed Tryz.func395 h (by kernel_rfl)
def runs_Cut.pre (a0 : Sl) (a1 : Int) (a2 : Int) (w : World) (R : Ending → World → Prop) : Prop :=
 ∃ I0 : Nat → Int → Int → Sl → World → Prop,
 (∃ n1, I0 n1 (0) (0) ⟨none, 0, 0⟩ w) ∧
 ∀ (n1 : Nat) (us2 : Nat → Value) (x3 : Int) (x4 : Int) (s5 : Sl) (w6 : World), I0 n1 x3 x4 s5 w6 →
 Br (decide ((x3 : Int) < ((a0.n : Nat) : Int)))
 (InB a0.a x3 a0.n ∧ ∃ (x8 : Int) (x9 : Int), LoadL w6 (padd a0.a ((x3 : Int).toNat * 2)) 0 [.int .i64 x8, .int .i64 x9] ∧
 ∀ w10 : World, w10 = w6.alloc (.cells #[.int .i64 0, .int .i64 0] 322) →
 ∀ w11 : World, w11 = w10.setRow w6.heap.size #[.int .i64 x8, .int .i64 x9] →
 Br (decide (((if (IntKind.wrap .i64 (x4 + x8)) < a2 then (IntKind.wrap .i64 (x4 + x8)) else a2) : Int) > (if x4 > a1 then x4 else a1)))
 (Calls Tryz.prog n_runs_push #[.slice s5.a s5.n s5.c, .agg #[.int .i64 (IntKind.wrap .i64 ((if (IntKind.wrap .i64 (x4 + x8)) < a2 then (IntKind.wrap .i64 (x4 + x8)) else a2) - (if x4 > a1 then x4 else a1))), .int .i64 x9]] w11.drew (fun e w12 => ∃ (s13 : Sl), e = .returned (.slice s13.a s13.n s13.c) ∧ w12.heap[w6.heap.size]? = w11.drew.heap[w6.heap.size]? ∧
 ∃ n7, n7 < n1 ∧ I0 n7 ((IntKind.wrap .i64 (x3 + 1))) ((IntKind.wrap .i64 (x4 + x8))) ⟨s13.a, s13.n, s13.c⟩ w12))
 (∃ n7, n7 < n1 ∧ I0 n7 ((IntKind.wrap .i64 (x3 + 1))) ((IntKind.wrap .i64 (x4 + x8))) ⟨s5.a, s5.n, s5.c⟩ w11.drew))
 (R (.returned (.slice s5.a s5.n s5.c)) w6)
theorem runs_Cut.vc {a0 a1 a2 w} {R : Ending → World → Prop} (h : runs_Cut.pre a0 a1 a2 w R) : Calls Tryz.prog n_runs_Cut #[.slice a0.a a0.n a0.c, .int .i64 a1, .int .i64 a2] w R :=
 calls_of_eq (an := ⟨[(4, ⟨[(15, .int .i64), (8, .int .i64), (7, .slice)], [], []⟩)], [], []⟩) (args := [.slice a0.a a0.n a0.c, .int .i64 a1, .int .i64 a2]) Tryz.noNG Tryz.mixed Tryz.func396 h (by kernel_rfl)
def runs_Make.pre (a0 : Int) (a1 : Int) (w : World) (R : Ending → World → Prop) : Prop :=
 Calls Tryz.prog n_runs_push #[.slice none 0 0, .agg #[.int .i64 a0, .int .i64 a1]] w (fun e w0 => ∃ (s1 : Sl), e = .returned (.slice s1.a s1.n s1.c) ∧
 R (.returned (.slice s1.a s1.n s1.c)) w0)
theorem runs_Make.vc {a0 a1 w} {R : Ending → World → Prop} (h : runs_Make.pre a0 a1 w R) : Calls Tryz.prog n_runs_Make #[.int .i64 a0, .int .i64 a1] w R :=
 calls_of_eq (an := ⟨[], [], []⟩) (args := [.int .i64 a0, .int .i64 a1]) Tryz.noNG Tryz.mixed Tryz.func397 h (by kernel_rfl)
def code_Number.pre (a0 : Int) (w : World) (R : Ending → World → Prop) : Prop :=
 Br (decide ((a0 : Int) < 0))
 (R (.returned (.slice none 0 0)) w)
 (Br (decide ((a0 : Int) > 1048576))
 (R (.returned (.slice none 0 0)) w)
 (∃ I0 : Nat → Int → Sl → World → Prop,
 (∃ n1, I0 n1 (a0) ⟨none, 0, 0⟩ w) ∧
 ∀ (n1 : Nat) (us2 : Nat → Value) (x3 : Int) (s4 : Sl) (w5 : World), I0 n1 x3 s4 w5 →
 Br (decide ((x3 : Int) ≥ 128))
 (∀ w7 : World, w7 = w5.alloc (.cells #[.int .u8 (bOr .u8 (IntKind.wrap .u8 x3) 128)] 5) →
 AppPre 1 1 w7 ⟨s4.a, s4.n, s4.c⟩ 1 [.int .u8 (bOr .u8 (IntKind.wrap .u8 x3) 128)] ∧ ∀ (s8 : Sl) (w9 : World), AppRes 5 1 w7 ⟨s4.a, s4.n, s4.c⟩ 1 [.int .u8 (bOr .u8 (IntKind.wrap .u8 x3) 128)] s8 w9 → w9.heap[w5.heap.size]? = w7.heap[w5.heap.size]? ∧
 ∃ n6, n6 < n1 ∧ I0 n6 (((x3 : Int).fdiv (2 ^ (min (7 : Int).toNat 64)))) ⟨s8.a, s8.n, s8.c⟩ w9)
 (∀ w10 : World, w10 = w5.alloc (.cells #[.int .u8 (IntKind.wrap .u8 x3)] 5) →
 AppPre 1 1 w10 ⟨s4.a, s4.n, s4.c⟩ 1 [.int .u8 (IntKind.wrap .u8 x3)] ∧ ∀ (s11 : Sl) (w12 : World), AppRes 5 1 w10 ⟨s4.a, s4.n, s4.c⟩ 1 [.int .u8 (IntKind.wrap .u8 x3)] s11 w12 → w12.heap[w5.heap.size]? = w10.heap[w5.heap.size]? ∧
 R (.returned (.slice s11.a s11.n s11.c)) w12)))
theorem code_Number.vc {a0 w} {R : Ending → World → Prop} (h : code_Number.pre a0 w R) : Calls Tryz.prog n_code_Number #[.int .i64 a0] w R :=
 calls_of_eq (an := ⟨[(4, ⟨[(0, .int .i64), (3, .slice)], [], []⟩)], [], []⟩) (args := [.int .i64 a0]) Tryz.noNG Tryz.mixed Tryz.func348 h (by kernel_rfl)
def maps_Clone_byte.pre (a0 : Option Nat) (w : World) (R : Ending → World → Prop) : Prop :=
 Br (a0).isNone
 (R (.returned (.map none)) w)
 (ExtC Tryz.prog 386 [.iface 234 (.map a0)] w (fun e w0 => ∃ (v1 : Value), e = .returned (v1) ∧
 ∃ (m2 : Option Nat), (v1 : Value) = .iface 234 (.map m2) ∧
 R (.returned (.map m2)) w0))
theorem maps_Clone_byte.vc {a0 w} {R : Ending → World → Prop} (h : maps_Clone_byte.pre a0 w R) : Calls Tryz.prog n_maps_Clone_byte #[.map a0] w R :=
 calls_of_eq (an := ⟨[], [], []⟩) (args := [.map a0]) Tryz.noNG Tryz.mixed Tryz.func369 h (by kernel_rfl)
def gen_Ground_1.pre (a0 : Int) (a1 : Int) (a2 : Int) (c0 : Addr) (w : World) (R : Ending → World → Prop) : Prop :=
 ∃ (x0 : Int), ld w (some c0) = some (.int .i64 x0) ∧
 Calls Tryz.prog n_gen_Hash #[.int .i64 x0, .int .i64 a0, .int .i64 a1] w (fun e w1 => ∃ (x2 : Int), e = .returned (.int .u64 x2) ∧
 R (.returned (.int .i64 (IntKind.wrap .i64 ((IntKind.wrap .i64 (Int.tmod x2 9)) * a2)))) w1)
theorem gen_Ground_1.vc {a0 a1 a2 c0 w} {R : Ending → World → Prop} (h : gen_Ground_1.pre a0 a1 a2 c0 w R) : Calls Tryz.prog n_gen_Ground_1 #[.int .i64 a0, .int .i64 a1, .int .i64 a2, .pointer (some c0)] w R :=
 calls_of_eq (an := ⟨[], [], []⟩) (args := [.int .i64 a0, .int .i64 a1, .int .i64 a2, .pointer (some c0)]) Tryz.noNG Tryz.mixed Tryz.func371 h (by kernel_rfl)
def gen_Hash.pre (a0 : Int) (a1 : Int) (a2 : Int) (w : World) (R : Ending → World → Prop) : Prop :=
 R (.returned (.int .u64 (bXor .u64 (IntKind.wrap .u64 ((bXor .u64 (IntKind.wrap .u64 ((IntKind.wrap .u64 ((IntKind.wrap .u64 ((IntKind.wrap .u64 a0) * 11400714819323198485)) + (IntKind.wrap .u64 ((IntKind.wrap .u64 a1) * 14029467366897019727)))) + (IntKind.wrap .u64 ((IntKind.wrap .u64 a2) * 1609587929392839161)))) (((IntKind.wrap .u64 ((IntKind.wrap .u64 ((IntKind.wrap .u64 ((IntKind.wrap .u64 a0) * 11400714819323198485)) + (IntKind.wrap .u64 ((IntKind.wrap .u64 a1) * 14029467366897019727)))) + (IntKind.wrap .u64 ((IntKind.wrap .u64 a2) * 1609587929392839161)))) : Int).fdiv (2 ^ (min (29 : Int).toNat 64)))) * 13787848793156543929)) (((IntKind.wrap .u64 ((bXor .u64 (IntKind.wrap .u64 ((IntKind.wrap .u64 ((IntKind.wrap .u64 ((IntKind.wrap .u64 a0) * 11400714819323198485)) + (IntKind.wrap .u64 ((IntKind.wrap .u64 a1) * 14029467366897019727)))) + (IntKind.wrap .u64 ((IntKind.wrap .u64 a2) * 1609587929392839161)))) (((IntKind.wrap .u64 ((IntKind.wrap .u64 ((IntKind.wrap .u64 ((IntKind.wrap .u64 a0) * 11400714819323198485)) + (IntKind.wrap .u64 ((IntKind.wrap .u64 a1) * 14029467366897019727)))) + (IntKind.wrap .u64 ((IntKind.wrap .u64 a2) * 1609587929392839161)))) : Int).fdiv (2 ^ (min (29 : Int).toNat 64)))) * 13787848793156543929)) : Int).fdiv (2 ^ (min (32 : Int).toNat 64)))))) w
theorem gen_Hash.vc {a0 a1 a2 w} {R : Ending → World → Prop} (h : gen_Hash.pre a0 a1 a2 w R) : Calls Tryz.prog n_gen_Hash #[.int .i64 a0, .int .i64 a1, .int .i64 a2] w R :=
 calls_of_eq (an := ⟨[], [], []⟩) (args := [.int .i64 a0, .int .i64 a1, .int .i64 a2]) Tryz.noNG Tryz.mixed Tryz.func372 h (by kernel_rfl)
def internal_strconv_Itoa.pre (a0 : Int) (w : World) (R : Ending → World → Prop) : Prop :=
 Calls Tryz.prog n_internal_strconv_FormatInt #[.int .i64 a0, .int .i64 10] w (fun e w0 => ∃ (t1 : ByteArray), e = .returned (.string t1) ∧
 R (.returned (.string t1)) w0)
theorem internal_strconv_Itoa.vc {a0 w} {R : Ending → World → Prop} (h : internal_strconv_Itoa.pre a0 w R) : Calls Tryz.prog n_internal_strconv_Itoa #[.int .i64 a0] w R :=
 calls_of_eq (an := ⟨[], [], []⟩) (args := [.int .i64 a0]) Tryz.noNG Tryz.mixed Tryz.func282 h (by kernel_rfl)
def internal_strconv_small.pre (a0 : Int) (w : World) (R : Ending → World → Prop) : Prop :=
 Br (decide ((a0 : Int) < 10))
 ((0 : Int) ≤ (IntKind.wrap .i64 (a0 + 1)) ∧ (IntKind.wrap .i64 (a0 + 1)) ≤ ((((ByteArray.mk #[48, 49, 50, 51, 52, 53, 54, 55, 56, 57, 97, 98, 99, 100, 101, 102, 103, 104, 105, 106, 107, 108, 109, 110, 111, 112, 113, 114, 115, 116, 117, 118, 119, 120, 121, 122])).size : Nat) : Int) ∧ (0 : Int) ≤ a0 ∧ (a0 : Int) ≤ (IntKind.wrap .i64 (a0 + 1)) ∧ R (.returned (.string (((ByteArray.mk #[48, 49, 50, 51, 52, 53, 54, 55, 56, 57, 97, 98, 99, 100, 101, 102, 103, 104, 105, 106, 107, 108, 109, 110, 111, 112, 113, 114, 115, 116, 117, 118, 119, 120, 121, 122])).extract ((a0 : Int).toNat) (((IntKind.wrap .i64 (a0 + 1)) : Int).toNat)))) w)
 ((0 : Int) ≤ (IntKind.wrap .i64 ((IntKind.wrap .i64 (a0 * 2)) + 2)) ∧ (IntKind.wrap .i64 ((IntKind.wrap .i64 (a0 * 2)) + 2)) ≤ ((((ByteArray.mk #[48, 48, 48, 49, 48, 50, 48, 51, 48, 52, 48, 53, 48, 54, 48, 55, 48, 56, 48, 57, 49, 48, 49, 49, 49, 50, 49, 51, 49, 52, 49, 53, 49, 54, 49, 55, 49, 56, 49, 57, 50, 48, 50, 49, 50, 50, 50, 51, 50, 52, 50, 53, 50, 54, 50, 55, 50, 56, 50, 57, 51, 48, 51, 49, 51, 50, 51, 51, 51, 52, 51, 53, 51, 54, 51, 55, 51, 56, 51, 57, 52, 48, 52, 49, 52, 50, 52, 51, 52, 52, 52, 53, 52, 54, 52, 55, 52, 56, 52, 57, 53, 48, 53, 49, 53, 50, 53, 51, 53, 52, 53, 53, 53, 54, 53, 55, 53, 56, 53, 57, 54, 48, 54, 49, 54, 50, 54, 51, 54, 52, 54, 53, 54, 54, 54, 55, 54, 56, 54, 57, 55, 48, 55, 49, 55, 50, 55, 51, 55, 52, 55, 53, 55, 54, 55, 55, 55, 56, 55, 57, 56, 48, 56, 49, 56, 50, 56, 51, 56, 52, 56, 53, 56, 54, 56, 55, 56, 56, 56, 57, 57, 48, 57, 49, 57, 50, 57, 51, 57, 52, 57, 53, 57, 54, 57, 55, 57, 56, 57, 57])).size : Nat) : Int) ∧ (0 : Int) ≤ (IntKind.wrap .i64 (a0 * 2)) ∧ ((IntKind.wrap .i64 (a0 * 2)) : Int) ≤ (IntKind.wrap .i64 ((IntKind.wrap .i64 (a0 * 2)) + 2)) ∧ R (.returned (.string (((ByteArray.mk #[48, 48, 48, 49, 48, 50, 48, 51, 48, 52, 48, 53, 48, 54, 48, 55, 48, 56, 48, 57, 49, 48, 49, 49, 49, 50, 49, 51, 49, 52, 49, 53, 49, 54, 49, 55, 49, 56, 49, 57, 50, 48, 50, 49, 50, 50, 50, 51, 50, 52, 50, 53, 50, 54, 50, 55, 50, 56, 50, 57, 51, 48, 51, 49, 51, 50, 51, 51, 51, 52, 51, 53, 51, 54, 51, 55, 51, 56, 51, 57, 52, 48, 52, 49, 52, 50, 52, 51, 52, 52, 52, 53, 52, 54, 52, 55, 52, 56, 52, 57, 53, 48, 53, 49, 53, 50, 53, 51, 53, 52, 53, 53, 53, 54, 53, 55, 53, 56, 53, 57, 54, 48, 54, 49, 54, 50, 54, 51, 54, 52, 54, 53, 54, 54, 54, 55, 54, 56, 54, 57, 55, 48, 55, 49, 55, 50, 55, 51, 55, 52, 55, 53, 55, 54, 55, 55, 55, 56, 55, 57, 56, 48, 56, 49, 56, 50, 56, 51, 56, 52, 56, 53, 56, 54, 56, 55, 56, 56, 56, 57, 57, 48, 57, 49, 57, 50, 57, 51, 57, 52, 57, 53, 57, 54, 57, 55, 57, 56, 57, 57])).extract (((IntKind.wrap .i64 (a0 * 2)) : Int).toNat) (((IntKind.wrap .i64 ((IntKind.wrap .i64 (a0 * 2)) + 2)) : Int).toNat)))) w)
theorem internal_strconv_small.vc {a0 w} {R : Ending → World → Prop} (h : internal_strconv_small.pre a0 w R) : Calls Tryz.prog n_internal_strconv_small #[.int .i64 a0] w R :=
 calls_of_eq (an := ⟨[], [], []⟩) (args := [.int .i64 a0]) Tryz.noNG Tryz.mixed Tryz.func364 h (by kernel_rfl)
def world_World_Set.pre (a0 : Addr) (a1_0 : Int) (a1_1 : Int) (a1_2 : Int) (a2 : Int) (w : World) (R : Ending → World → Prop) : Prop :=
 ∀ w0 : World, w0 = w.alloc (.cells #[.int .i64 a1_0, .int .i64 a1_1, .int .i64 a1_2] 23) →
 ∃ (p1 : Option Addr), ld w0.drew (padd (some a0) 0) = some (.pointer p1) ∧
 Calls Tryz.prog n_table_Table_At #[.pointer p1, .agg #[.int .i64 a1_0, .int .i64 a1_1, .int .i64 a1_2]] w0.drew (fun e w2 => ∃ (x3 : Int), e = .returned (.int .i64 x3) ∧ w2.heap[w.heap.size]? = w0.drew.heap[w.heap.size]? ∧
 ∃ (p4 : Option Addr), ld w2.drew (padd (some a0) 0) = some (.pointer p4) ∧
 Calls Tryz.prog n_table_Table_Set #[.pointer p4, .agg #[.int .i64 a1_0, .int .i64 a1_1, .int .i64 a1_2], .int .i64 a2] w2.drew (fun e w5 => ∃ (x6 : Int), e = .returned (.int .i64 x6) ∧ w5.heap[w.heap.size]? = w2.drew.heap[w.heap.size]? ∧
 Br ((x6 : Int) == 0)
 (Br ((x3 : Int) != a2)
 (∃ (s7 : Sl), ld w5.drew (padd (some a0) 1) = some (.slice s7.a s7.n s7.c) ∧
 ∀ w8 : World, w8 = w5.drew.alloc (.cells #[.int .i64 a1_0, .int .i64 a1_1, .int .i64 a1_2, .int .i64 a2] 269) →
 AppPre 32 4 w8 ⟨s7.a, s7.n, s7.c⟩ 1 [.int .i64 a1_0, .int .i64 a1_1, .int .i64 a1_2, .int .i64 a2] ∧ ∀ (s9 : Sl) (w10 : World), AppRes 269 4 w8 ⟨s7.a, s7.n, s7.c⟩ 1 [.int .i64 a1_0, .int .i64 a1_1, .int .i64 a1_2, .int .i64 a2] s9 w10 → w10.heap[w.heap.size]? = w8.heap[w.heap.size]? ∧ w10.heap[w5.drew.heap.size]? = w8.heap[w5.drew.heap.size]? ∧
 (true = true ∧ Wr w10 (padd (some a0) 1) 1) ∧ pblk (padd (some a0) 1) ≠ some w.heap.size ∧ pblk (padd (some a0) 1) ≠ some w5.drew.heap.size ∧ (∀ w11 : World, w11 = setP w10 (padd (some a0) 1) [.slice s9.a s9.n s9.c] →
 R (.returned (.int .i64 x6)) w11))
 (R (.returned (.int .i64 x6)) w5))
 (R (.returned (.int .i64 x6)) w5)))
theorem world_World_Set.vc {a0 a1_0 a1_1 a1_2 a2 w} {R : Ending → World → Prop} (h : world_World_Set.pre a0 a1_0 a1_1 a1_2 a2 w R) : Calls Tryz.prog n_world_World_Set #[.pointer (some a0), .agg #[.int .i64 a1_0, .int .i64 a1_1, .int .i64 a1_2], .int .i64 a2] w R :=
 calls_of_eq (an := ⟨[], [], []⟩) (args := [.pointer (some a0), .agg #[.int .i64 a1_0, .int .i64 a1_1, .int .i64 a1_2], .int .i64 a2]) Tryz.noNG Tryz.mixed Tryz.func250 h (by kernel_rfl)
def world_New.pre (a0 : Int) (a1 : Int) (a2 : Int) (w : World) (R : Ending → World → Prop) : Prop :=
 Calls Tryz.prog n_table_New #[.int .i64 a0, .int .i64 a1, .int .i64 a2] w (fun e w0 => ∃ (p1 : Option Addr), e = .returned (.pointer p1) ∧
 ∀ w2 : World, w2 = w0.alloc (.cells #[.pointer p1, .slice none 0 0] 132) →
 R (.returned (.pointer (some ⟨w0.heap.size, 0, none⟩))) w2)
theorem world_New.vc {a0 a1 a2 w} {R : Ending → World → Prop} (h : world_New.pre a0 a1 a2 w R) : Calls Tryz.prog n_world_New #[.int .i64 a0, .int .i64 a1, .int .i64 a2] w R :=
 calls_of_eq (an := ⟨[], [], []⟩) (args := [.int .i64 a0, .int .i64 a1, .int .i64 a2]) Tryz.noNG Tryz.mixed Tryz.func115 h (by kernel_rfl)
def world_World_Table.pre (a0 : Addr) (w : World) (R : Ending → World → Prop) : Prop :=
 ∃ (p0 : Option Addr), ld w (padd (some a0) 0) = some (.pointer p0) ∧
 R (.returned (.pointer p0)) w
theorem world_World_Table.vc {a0 w} {R : Ending → World → Prop} (h : world_World_Table.pre a0 w R) : Calls Tryz.prog n_world_World_Table #[.pointer (some a0)] w R :=
 calls_of_eq (an := ⟨[], [], []⟩) (args := [.pointer (some a0)]) Tryz.noNG Tryz.mixed Tryz.func40 h (by kernel_rfl)
def table_Table_Load.pre (a0 : Addr) (a1_0 : Int) (a1_1 : Int) (w : World) (R : Ending → World → Prop) : Prop :=
 ∀ w0 : World, w0 = w.alloc (.cells #[.int .i64 a1_0, .int .i64 a1_1] 139) →
 Calls Tryz.prog n_table_Id #[.agg #[.int .i64 a1_0, .int .i64 a1_1]] w0 (fun e w1 => ∃ (x2 : Int) (b3 : Bool), e = .returned (.tuple #[.int .i64 x2, .bool b3]) ∧ w1.heap[w.heap.size]? = w0.heap[w.heap.size]? ∧
 Br (!b3)
 (R (.returned (.int .i64 5)) w1)
 (Calls Tryz.prog n_table_Table_find #[.pointer (some a0), .agg #[.int .i64 a1_0, .int .i64 a1_1]] w1 (fun e w4 => ∃ (x5 : Int), e = .returned (.int .i64 x5) ∧ w4.heap[w.heap.size]? = w1.heap[w.heap.size]? ∧
 Br (decide ((x5 : Int) ≥ 0))
 (Calls Tryz.prog n_table_Table_touch #[.pointer (some a0), .int .i64 x5] w4 (fun e w6 => ∃ (p7 : Option Addr), e = .returned (.pointer p7) ∧ w6.heap[w.heap.size]? = w4.heap[w.heap.size]? ∧
 R (.returned (.int .i64 0)) w6))
 (Calls Tryz.prog n_table_Table_room #[.pointer (some a0)] w4 (fun e w8 => ∃ (x9 : Int), e = .returned (.int .i64 x9) ∧ w8.heap[w.heap.size]? = w4.heap[w.heap.size]? ∧
 Br ((x9 : Int) != 0)
 (R (.returned (.int .i64 x9)) w8)
 (∃ (p10 : Option Addr), ld w8 (padd (some a0) 0) = some (.pointer p10) ∧
 Calls Tryz.prog n_store_Store_Load #[.pointer p10, .int .i64 x2] w8 (fun e w11 => ∃ (s12 : Sl) (x13 : Int) (b14 : Bool), e = .returned (.tuple #[.slice s12.a s12.n s12.c, .int .i64 x13, .bool b14]) ∧ w11.heap[w.heap.size]? = w8.heap[w.heap.size]? ∧
 Calls Tryz.prog n_chunk_Read #[.agg #[.int .i64 a1_0, .int .i64 a1_1], .slice s12.a s12.n s12.c] w11 (fun e w15 => ∃ (p16 : Option Addr) (x17 : Int), e = .returned (.tuple #[.pointer p16, .int .i64 x17]) ∧ w15.heap[w.heap.size]? = w11.heap[w.heap.size]? ∧
 Br ((x17 : Int) != 0)
 (∃ (x18 : Int), ld w15.drew (padd (some a0) 1) = some (.int .i64 x18) ∧
 Calls Tryz.prog n_chunk_Make #[.int .i64 x18, .agg #[.int .i64 a1_0, .int .i64 a1_1]] w15.drew (fun e w19 => ∃ (p20 : Option Addr), e = .returned (.pointer p20) ∧ w19.heap[w.heap.size]? = w15.drew.heap[w.heap.size]? ∧
 ∃ (s21 : Sl), ld w19 (padd (some a0) 3) = some (.slice s21.a s21.n s21.c) ∧
 ∀ w22 : World, w22 = w19.alloc (.cells #[.pointer p20, .bool false, .int .i64 0] 143) →
 ∀ w23 : World, w23 = w22.alloc (.cells #[.pointer (some ⟨w19.heap.size, 0, none⟩)] 137) →
 AppPre 8 1 w23 ⟨s21.a, s21.n, s21.c⟩ 1 [.pointer (some ⟨w19.heap.size, 0, none⟩)] ∧ ∀ (s24 : Sl) (w25 : World), AppRes 137 1 w23 ⟨s21.a, s21.n, s21.c⟩ 1 [.pointer (some ⟨w19.heap.size, 0, none⟩)] s24 w25 → w25.heap[w.heap.size]? = w23.heap[w.heap.size]? ∧ w25.heap[w22.heap.size]? = w23.heap[w22.heap.size]? ∧
 (true = true ∧ Wr w25 (padd (some a0) 3) 1) ∧ pblk (padd (some a0) 3) ≠ some w.heap.size ∧ pblk (padd (some a0) 3) ≠ some w22.heap.size ∧ (∀ w26 : World, w26 = setP w25 (padd (some a0) 3) [.slice s24.a s24.n s24.c] →
 R (.returned (.int .i64 0)) w26)))
 (∃ (s27 : Sl), ld w15 (padd (some a0) 3) = some (.slice s27.a s27.n s27.c) ∧
 ∀ w28 : World, w28 = w15.alloc (.cells #[.pointer p16, .bool false, .int .i64 0] 143) →
 ∀ w29 : World, w29 = w28.alloc (.cells #[.pointer (some ⟨w15.heap.size, 0, none⟩)] 137) →
 AppPre 8 1 w29 ⟨s27.a, s27.n, s27.c⟩ 1 [.pointer (some ⟨w15.heap.size, 0, none⟩)] ∧ ∀ (s30 : Sl) (w31 : World), AppRes 137 1 w29 ⟨s27.a, s27.n, s27.c⟩ 1 [.pointer (some ⟨w15.heap.size, 0, none⟩)] s30 w31 → w31.heap[w.heap.size]? = w29.heap[w.heap.size]? ∧ w31.heap[w28.heap.size]? = w29.heap[w28.heap.size]? ∧
 (true = true ∧ Wr w31 (padd (some a0) 3) 1) ∧ pblk (padd (some a0) 3) ≠ some w.heap.size ∧ pblk (padd (some a0) 3) ≠ some w28.heap.size ∧ (∀ w32 : World, w32 = setP w31 (padd (some a0) 3) [.slice s30.a s30.n s30.c] →
 R (.returned (.int .i64 0)) w32))))))))))
theorem table_Table_Load.vc {a0 a1_0 a1_1 w} {R : Ending → World → Prop} (h : table_Table_Load.pre a0 a1_0 a1_1 w R) : Calls Tryz.prog n_table_Table_Load #[.pointer (some a0), .agg #[.int .i64 a1_0, .int .i64 a1_1]] w R :=
 calls_of_eq (an := ⟨[], [], []⟩) (args := [.pointer (some a0), .agg #[.int .i64 a1_0, .int .i64 a1_1]]) Tryz.noNG Tryz.mixed Tryz.func88 h (by kernel_rfl)
def table_Table_At.pre (a0 : Addr) (a1_0 : Int) (a1_1 : Int) (a1_2 : Int) (w : World) (R : Ending → World → Prop) : Prop :=
 ∀ w0 : World, w0 = w.alloc (.cells #[.int .i64 a1_0, .int .i64 a1_1, .int .i64 a1_2] 23) →
 Calls Tryz.prog n_cell_Chunk #[.agg #[.int .i64 a1_0, .int .i64 a1_1, .int .i64 a1_2]] w0 (fun e w1 => ∃ (x2 : Int) (x3 : Int), e = .returned (.agg #[.int .i64 x2, .int .i64 x3]) ∧ w1.heap[w.heap.size]? = w0.heap[w.heap.size]? ∧
 Calls Tryz.prog n_table_Table_find #[.pointer (some a0), .agg #[.int .i64 x2, .int .i64 x3]] w1 (fun e w4 => ∃ (x5 : Int), e = .returned (.int .i64 x5) ∧ w4.heap[w.heap.size]? = w1.heap[w.heap.size]? ∧
 Br (decide ((x5 : Int) < 0))
 (R (.returned (.int .i64 (-1))) w4)
 (Br (decide ((a1_1 : Int) < 0))
 (R (.returned (.int .i64 1)) w4)
 (∃ (s6 : Sl), ld w4.drew (padd (some a0) 3) = some (.slice s6.a s6.n s6.c) ∧
 InB s6.a x5 s6.n ∧ ∃ (p7 : Option Addr), ld w4.drew (padd s6.a ((x5 : Int).toNat * 1)) = some (.pointer p7) ∧
 AndL (nnC p7) (AndL (nnC p7) (∃ (p8 : Option Addr), ld w4.drew (padd p7 0) = some (.pointer p8) ∧
 Calls Tryz.prog n_chunk_Chunk_At #[.pointer p8, .agg #[.int .i64 a1_0, .int .i64 a1_1, .int .i64 a1_2]] w4.drew (fun e w9 => ∃ (x10 : Int) (b11 : Bool), e = .returned (.tuple #[.int .i64 x10, .bool b11]) ∧ w9.heap[w.heap.size]? = w4.drew.heap[w.heap.size]? ∧
 LoadL w9 (padd s6.a ((x5 : Int).toNat * 1)) 0 [.pointer p7] ∧ LoadL w9 (padd (some a0) 3) 0 [.slice s6.a s6.n s6.c] ∧ R (.returned (.int .i64 x10)) w9)))))))
theorem table_Table_At.vc {a0 a1_0 a1_1 a1_2 w} {R : Ending → World → Prop} (h : table_Table_At.pre a0 a1_0 a1_1 a1_2 w R) : Calls Tryz.prog n_table_Table_At #[.pointer (some a0), .agg #[.int .i64 a1_0, .int .i64 a1_1, .int .i64 a1_2]] w R :=
 calls_of_eq (an := ⟨[], [], []⟩) (args := [.pointer (some a0), .agg #[.int .i64 a1_0, .int .i64 a1_1, .int .i64 a1_2]]) Tryz.noNG Tryz.mixed Tryz.func113 h (by kernel_rfl)
def ref04_Good.pre (a0 : Int) (w : World) (R : Ending → World → Prop) : Prop :=
 Calls Tryz.prog n_ref01_Around #[.int .i64 a0, .int .i64 14] w (fun e w0 => ∃ (x1 : Int), e = .returned (.int .i64 x1) ∧
 Br (decide ((x1 : Int) > 5))
 (R (.returned (.int .i64 (IntKind.wrap .i64 (x1 + 2)))) w0)
 (R (.returned (.int .i64 x1)) w0))
theorem ref04_Good.vc {a0 w} {R : Ending → World → Prop} (h : ref04_Good.pre a0 w R) : Calls Tryz.prog n_ref04_Good #[.int .i64 a0] w R :=
 calls_of_eq (an := ⟨[], [], []⟩) (args := [.int .i64 a0]) Tryz.noNG Tryz.mixed Tryz.func17 h (by kernel_rfl)
def table_Table_Set.pre (a0 : Addr) (a1_0 : Int) (a1_1 : Int) (a1_2 : Int) (a2 : Int) (w : World) (R : Ending → World → Prop) : Prop :=
 ∀ w0 : World, w0 = w.alloc (.cells #[.int .i64 a1_0, .int .i64 a1_1, .int .i64 a1_2] 23) →
 Calls Tryz.prog n_cell_Chunk #[.agg #[.int .i64 a1_0, .int .i64 a1_1, .int .i64 a1_2]] w0 (fun e w1 => ∃ (x2 : Int) (x3 : Int), e = .returned (.agg #[.int .i64 x2, .int .i64 x3]) ∧ w1.heap[w.heap.size]? = w0.heap[w.heap.size]? ∧
 Calls Tryz.prog n_table_Table_find #[.pointer (some a0), .agg #[.int .i64 x2, .int .i64 x3]] w1 (fun e w4 => ∃ (x5 : Int), e = .returned (.int .i64 x5) ∧ w4.heap[w.heap.size]? = w1.heap[w.heap.size]? ∧
 Calls Tryz.prog n_cell_Index #[.agg #[.int .i64 a1_0, .int .i64 a1_1, .int .i64 a1_2]] w4 (fun e w6 => ∃ (x7 : Int) (b8 : Bool), e = .returned (.tuple #[.int .i64 x7, .bool b8]) ∧ w6.heap[w.heap.size]? = w4.heap[w.heap.size]? ∧
 Br (decide ((x5 : Int) < 0))
 (R (.returned (.int .i64 11)) w6)
 (Br (!b8)
 (R (.returned (.int .i64 5)) w6)
 (Calls Tryz.prog n_block_May #[.int .i64 a2] w6 (fun e w9 => ∃ (b10 : Bool), e = .returned (.bool b10) ∧ w9.heap[w.heap.size]? = w6.heap[w.heap.size]? ∧
 Br (!b10)
 (R (.returned (.int .i64 1)) w9)
 (Calls Tryz.prog n_table_Table_touch #[.pointer (some a0), .int .i64 x5] w9 (fun e w11 => ∃ (p12 : Option Addr), e = .returned (.pointer p12) ∧ w11.heap[w.heap.size]? = w9.heap[w.heap.size]? ∧
 AndL (nnC p12) (AndL (nnC p12) (∃ (p13 : Option Addr), ld w11.drew (padd p12 0) = some (.pointer p13) ∧
 Calls Tryz.prog n_chunk_Chunk_At #[.pointer p13, .agg #[.int .i64 a1_0, .int .i64 a1_1, .int .i64 a1_2]] w11.drew (fun e w14 => ∃ (x15 : Int) (b16 : Bool), e = .returned (.tuple #[.int .i64 x15, .bool b16]) ∧ w14.heap[w.heap.size]? = w11.drew.heap[w.heap.size]? ∧
 AndL (nnC p12) (AndL (nnC p12) (∃ (b17 : Bool), ld w14 (padd p12 1) = some (.bool b17) ∧
 Br b17
 (AndL (nnC p12) (AndL (nnC p12) ((((padd p12 1)).isSome = true ∧ Wr w14 (padd p12 1) 1) ∧ pblk (padd p12 1) ≠ some w.heap.size ∧ (∀ w18 : World, w18 = setP w14 (padd p12 1) [.bool true] →
 AndL (nnC p12) (AndL (nnC p12) (∃ (p19 : Option Addr), ld w18.drew (padd p12 0) = some (.pointer p19) ∧
 Calls Tryz.prog n_chunk_Chunk_Set #[.pointer p19, .agg #[.int .i64 a1_0, .int .i64 a1_1, .int .i64 a1_2], .int .i64 a2] w18.drew (fun e w20 => ∃ (x21 : Int), e = .returned (.int .i64 x21) ∧ w20.heap[w.heap.size]? = w18.drew.heap[w.heap.size]? ∧
 R (.returned (.int .i64 x21)) w20)))))))
 (AndL (nnC p12) (AndL (nnC p12) ((((padd p12 1)).isSome = true ∧ Wr w14 (padd p12 1) 1) ∧ pblk (padd p12 1) ≠ some w.heap.size ∧ (∀ w22 : World, w22 = setP w14 (padd p12 1) [.bool ((x15 : Int) != a2)] →
 AndL (nnC p12) (AndL (nnC p12) (∃ (p23 : Option Addr), ld w22.drew (padd p12 0) = some (.pointer p23) ∧
 Calls Tryz.prog n_chunk_Chunk_Set #[.pointer p23, .agg #[.int .i64 a1_0, .int .i64 a1_1, .int .i64 a1_2], .int .i64 a2] w22.drew (fun e w24 => ∃ (x25 : Int), e = .returned (.int .i64 x25) ∧ w24.heap[w.heap.size]? = w22.drew.heap[w.heap.size]? ∧
 R (.returned (.int .i64 x25)) w24))))))))))))))))))))
theorem table_Table_Set.vc {a0 a1_0 a1_1 a1_2 a2 w} {R : Ending → World → Prop} (h : table_Table_Set.pre a0 a1_0 a1_1 a1_2 a2 w R) : Calls Tryz.prog n_table_Table_Set #[.pointer (some a0), .agg #[.int .i64 a1_0, .int .i64 a1_1, .int .i64 a1_2], .int .i64 a2] w R :=
 calls_of_eq (an := ⟨[], [], []⟩) (args := [.pointer (some a0), .agg #[.int .i64 a1_0, .int .i64 a1_1, .int .i64 a1_2], .int .i64 a2]) Tryz.noNG Tryz.mixed Tryz.func307 h (by kernel_rfl)
def table_New.pre (a0 : Int) (a1 : Int) (a2 : Int) (w : World) (R : Ending → World → Prop) : Prop :=
 Calls Tryz.prog n_store_New #[.int .i64 a2] w (fun e w0 => ∃ (p1 : Option Addr), e = .returned (.pointer p1) ∧
 ∀ w2 : World, w2 = w0.alloc (.cells #[.pointer p1, .int .i64 a0, .int .i64 (if 16 < (if 1 > a1 then 1 else a1) then 16 else (if 1 > a1 then 1 else a1)), .slice none 0 0] 136) →
 R (.returned (.pointer (some ⟨w0.heap.size, 0, none⟩))) w2)
theorem table_New.vc {a0 a1 a2 w} {R : Ending → World → Prop} (h : table_New.pre a0 a1 a2 w R) : Calls Tryz.prog n_table_New #[.int .i64 a0, .int .i64 a1, .int .i64 a2] w R :=
 calls_of_eq (an := ⟨[], [], []⟩) (args := [.int .i64 a0, .int .i64 a1, .int .i64 a2]) Tryz.noNG Tryz.mixed Tryz.func176 h (by kernel_rfl)
def table_Id.pre (a0_0 : Int) (a0_1 : Int) (w : World) (R : Ending → World → Prop) : Prop :=
 ∀ w0 : World, w0 = w.alloc (.cells #[.int .i64 a0_0, .int .i64 a0_1] 139) →
 Br (decide ((a0_0 : Int) < (-524288)))
 (R (.returned (.tuple #[.int .i64 0, .bool false])) w0)
 (Br (decide ((a0_0 : Int) ≥ 524288))
 (R (.returned (.tuple #[.int .i64 0, .bool false])) w0)
 (Br (decide ((a0_1 : Int) < (-524288)))
 (R (.returned (.tuple #[.int .i64 0, .bool false])) w0)
 (Br (decide ((a0_1 : Int) ≥ 524288))
 (R (.returned (.tuple #[.int .i64 0, .bool false])) w0)
 (R (.returned (.tuple #[.int .i64 (IntKind.wrap .i64 ((IntKind.wrap .i64 ((IntKind.wrap .i64 ((IntKind.wrap .i64 ((IntKind.wrap .i64 ((IntKind.wrap .i64 (a0_0 + 524288)) * 2)) * 524288)) + a0_1)) + 524288)) + 1)), .bool true])) w0))))
theorem table_Id.vc {a0_0 a0_1 w} {R : Ending → World → Prop} (h : table_Id.pre a0_0 a0_1 w R) : Calls Tryz.prog n_table_Id #[.agg #[.int .i64 a0_0, .int .i64 a0_1]] w R :=
 calls_of_eq (an := ⟨[], [], []⟩) (args := [.agg #[.int .i64 a0_0, .int .i64 a0_1]]) Tryz.noNG Tryz.mixed Tryz.func157 h (by kernel_rfl)
def table_Table_find.pre (a0 : Addr) (a1_0 : Int) (a1_1 : Int) (w : World) (R : Ending → World → Prop) : Prop :=
 ∀ w0 : World, w0 = w.alloc (.cells #[.int .i64 a1_0, .int .i64 a1_1] 139) →
 ∃ (s1 : Sl), ld w0 (padd (some a0) 3) = some (.slice s1.a s1.n s1.c) ∧
 Calls Tryz.prog n_slices_IndexFunc_item #[.slice s1.a s1.n s1.c, .func (.func 228) #[] #[.pointer (some ⟨w.heap.size, 0, none⟩)]] w0 (fun e w2 => ∃ (x3 : Int), e = .returned (.int .i64 x3) ∧
 R (.returned (.int .i64 x3)) w2)
theorem table_Table_find.vc {a0 a1_0 a1_1 w} {R : Ending → World → Prop} (h : table_Table_find.pre a0 a1_0 a1_1 w R) : Calls Tryz.prog n_table_Table_find #[.pointer (some a0), .agg #[.int .i64 a1_0, .int .i64 a1_1]] w R :=
 calls_of_eq (an := ⟨[], [], []⟩) (args := [.pointer (some a0), .agg #[.int .i64 a1_0, .int .i64 a1_1]]) Tryz.noNG Tryz.mixed Tryz.func158 h (by kernel_rfl)
def table_Table_touch.pre (a0 : Addr) (a1 : Int) (w : World) (R : Ending → World → Prop) : Prop :=
 Calls Tryz.prog n_table_Table_out #[.pointer (some a0), .int .i64 a1] w (fun e w0 => ∃ (p1 : Option Addr), e = .returned (.pointer p1) ∧
 ∃ (s2 : Sl), ld w0 (padd (some a0) 3) = some (.slice s2.a s2.n s2.c) ∧
 ∀ w3 : World, w3 = w0.alloc (.cells #[.pointer p1] 137) →
 AppPre 8 1 w3 ⟨s2.a, s2.n, s2.c⟩ 1 [.pointer p1] ∧ ∀ (s4 : Sl) (w5 : World), AppRes 137 1 w3 ⟨s2.a, s2.n, s2.c⟩ 1 [.pointer p1] s4 w5 → w5.heap[w0.heap.size]? = w3.heap[w0.heap.size]? ∧
 (true = true ∧ Wr w5 (padd (some a0) 3) 1) ∧ pblk (padd (some a0) 3) ≠ some w0.heap.size ∧ (∀ w6 : World, w6 = setP w5 (padd (some a0) 3) [.slice s4.a s4.n s4.c] →
 R (.returned (.pointer p1)) w6))
theorem table_Table_touch.vc {a0 a1 w} {R : Ending → World → Prop} (h : table_Table_touch.pre a0 a1 w R) : Calls Tryz.prog n_table_Table_touch #[.pointer (some a0), .int .i64 a1] w R :=
 calls_of_eq (an := ⟨[], [], []⟩) (args := [.pointer (some a0), .int .i64 a1]) Tryz.noNG Tryz.mixed Tryz.func159 h (by kernel_rfl)
def table_Table_room.pre (a0 : Addr) (w : World) (R : Ending → World → Prop) : Prop :=
 ∃ (s0 : Sl), ld w.drew (padd (some a0) 3) = some (.slice s0.a s0.n s0.c) ∧
 ∃ (x1 : Int), ld w.drew (padd (some a0) 2) = some (.int .i64 x1) ∧
 Br (decide ((((s0.n : Nat) : Int) : Int) < x1))
 (R (.returned (.int .i64 0)) w.drew)
 (∃ (s2 : Sl), ld w.drew (padd (some a0) 3) = some (.slice s2.a s2.n s2.c) ∧
 Calls Tryz.prog n_slices_IndexFunc_item #[.slice s2.a s2.n s2.c, .func (.func 229) #[] #[]] w.drew (fun e w3 => ∃ (x4 : Int), e = .returned (.int .i64 x4) ∧
 Br (decide ((x4 : Int) < 0))
 (R (.returned (.int .i64 8)) w3)
 (∃ (s5 : Sl), ld w3 (padd (some a0) 3) = some (.slice s5.a s5.n s5.c) ∧
 InB s5.a x4 s5.n ∧ ∃ (p6 : Option Addr), ld w3 (padd s5.a ((x4 : Int).toNat * 1)) = some (.pointer p6) ∧
 Calls Tryz.prog n_table_Table_save #[.pointer (some a0), .pointer p6] w3 (fun e w7 => ∃ (x8 : Int), e = .returned (.int .i64 x8) ∧
 Br ((x8 : Int) == 0)
 (Calls Tryz.prog n_table_Table_out #[.pointer (some a0), .int .i64 x4] w7 (fun e w9 => ∃ (p10 : Option Addr), e = .returned (.pointer p10) ∧
 R (.returned (.int .i64 x8)) w9))
 (R (.returned (.int .i64 x8)) w7)))))
theorem table_Table_room.vc {a0 w} {R : Ending → World → Prop} (h : table_Table_room.pre a0 w R) : Calls Tryz.prog n_table_Table_room #[.pointer (some a0)] w R :=
 calls_of_eq (an := ⟨[], [], []⟩) (args := [.pointer (some a0)]) Tryz.noNG Tryz.mixed Tryz.func160 h (by kernel_rfl)
def store_Store_Load.pre (a0 : Addr) (a1 : Int) (w : World) (R : Ending → World → Prop) : Prop :=
 Calls Tryz.prog n_store_may #[.int .i64 a1] w (fun e w0 => ∃ (b1 : Bool), e = .returned (.bool b1) ∧
 Br (!b1)
 (R (.returned (.tuple #[.slice none 0 0, .int .i64 0, .bool false])) w0)
 (Calls Tryz.prog n_store_Store_of #[.pointer (some a0), .int .i64 a1] w0 (fun e w2 => ∃ (x3 : Int) (x4 : Int) (s5 : Sl), e = .returned (.agg #[.int .i64 x3, .int .i64 x4, .slice s5.a s5.n s5.c]) ∧
 ∀ w6 : World, w6 = w2.alloc (.cells #[.int .i64 0, .int .i64 0, .slice none 0 0] 276) →
 ∀ w7 : World, w7 = w6.setRow w2.heap.size #[.int .i64 x3, .int .i64 x4, .slice s5.a s5.n s5.c] →
 R (.returned (.tuple #[.slice s5.a s5.n s5.c, .int .i64 x4, .bool (decide ((x4 : Int) > 0))])) w7.drew)))
theorem store_Store_Load.vc {a0 a1 w} {R : Ending → World → Prop} (h : store_Store_Load.pre a0 a1 w R) : Calls Tryz.prog n_store_Store_Load #[.pointer (some a0), .int .i64 a1] w R :=
 calls_of_eq (an := ⟨[], [], []⟩) (args := [.pointer (some a0), .int .i64 a1]) Tryz.noNG Tryz.mixed Tryz.func161 h (by kernel_rfl)
def chunk_Read.pre (a0_0 : Int) (a0_1 : Int) (a1 : Sl) (w : World) (R : Ending → World → Prop) : Prop :=
 ∀ w0 : World, w0 = w.alloc (.cells #[.int .i64 a0_0, .int .i64 a0_1] 139) →
 Calls Tryz.prog n_code_Read #[.slice a1.a a1.n a1.c, .int .i64 8192] w0 (fun e w1 => ∃ (s2 : Sl) (x3 : Int), e = .returned (.tuple #[.slice s2.a s2.n s2.c, .int .i64 x3]) ∧ w1.heap[w.heap.size]? = w0.heap[w.heap.size]? ∧
 Br ((x3 : Int) != 0)
 (R (.returned (.tuple #[.pointer none, .int .i64 x3])) w1)
 (Calls Tryz.prog n_chunk_New #[.agg #[.int .i64 a0_0, .int .i64 a0_1], .slice s2.a s2.n s2.c] w1 (fun e w4 => ∃ (p5 : Option Addr) (x6 : Int), e = .returned (.tuple #[.pointer p5, .int .i64 x6]) ∧ w4.heap[w.heap.size]? = w1.heap[w.heap.size]? ∧
 R (.returned (.tuple #[.pointer p5, .int .i64 x6])) w4)))
theorem chunk_Read.vc {a0_0 a0_1 a1 w} {R : Ending → World → Prop} (h : chunk_Read.pre a0_0 a0_1 a1 w R) : Calls Tryz.prog n_chunk_Read #[.agg #[.int .i64 a0_0, .int .i64 a0_1], .slice a1.a a1.n a1.c] w R :=
 calls_of_eq (an := ⟨[], [], []⟩) (args := [.agg #[.int .i64 a0_0, .int .i64 a0_1], .slice a1.a a1.n a1.c]) Tryz.noNG Tryz.mixed Tryz.func162 h (by kernel_rfl)
def chunk_Make.pre (a0 : Int) (a1_0 : Int) (a1_1 : Int) (w : World) (R : Ending → World → Prop) : Prop :=
 ∀ w0 : World, w0 = w.alloc (.cells #[.int .i64 a1_0, .int .i64 a1_1] 139) →
 (Calls Tryz.prog n_gen_Chunk #[.int .i64 a0, .agg #[.int .i64 a1_0, .int .i64 a1_1]] w0.drew (fun e w1 => ∃ (s2 : Sl), e = .returned (.slice s2.a s2.n s2.c) ∧ w1.heap[w.heap.size]? = w0.drew.heap[w.heap.size]? ∧
 ∀ w3 : World, w3 = w1.alloc (.cells #[.int .i64 a1_0, .int .i64 a1_1, .slice s2.a s2.n s2.c] 148) →
 R (.returned (.pointer (some ⟨w1.heap.size, 0, none⟩))) w3)) ∧ (Calls Tryz.prog n_gen_Chunk #[.int .i64 a0, .agg #[.int .i64 a1_0, .int .i64 a1_1]] w0.drew (fun e w4 => ∃ (s5 : Sl), e = .returned (.slice s5.a s5.n s5.c) ∧ w4.heap[w.heap.size]? = w0.drew.heap[w.heap.size]? ∧
 LoadL w4 (some ⟨w.heap.size, 0, none⟩) 0 [.int .i64 a1_0, .int .i64 a1_1] ∧ ∀ w6 : World, w6 = w4.alloc (.cells #[.int .i64 a1_0, .int .i64 a1_1, .slice s5.a s5.n s5.c] 148) →
 R (.returned (.pointer (some ⟨w4.heap.size, 0, none⟩))) w6))
theorem chunk_Make.vc {a0 a1_0 a1_1 w} {R : Ending → World → Prop} (h : chunk_Make.pre a0 a1_0 a1_1 w R) : Calls Tryz.prog n_chunk_Make #[.int .i64 a0, .agg #[.int .i64 a1_0, .int .i64 a1_1]] w R :=
 calls_of_eq (an := ⟨[], [], []⟩) (args := [.int .i64 a0, .agg #[.int .i64 a1_0, .int .i64 a1_1]]) Tryz.noNG Tryz.mixed Tryz.func163 h (by kernel_rfl)
def cell_Chunk.pre (a0_0 : Int) (a0_1 : Int) (a0_2 : Int) (w : World) (R : Ending → World → Prop) : Prop :=
 ∀ w0 : World, w0 = w.alloc (.cells #[.int .i64 a0_0, .int .i64 a0_1, .int .i64 a0_2] 23) →
 ∀ w1 : World, w1 = w0.alloc (.cells #[.int .i64 0, .int .i64 0] 139) →
 Calls Tryz.prog n_cell_Div #[.int .i64 a0_0, .int .i64 16] w1.drew (fun e w2 => ∃ (x3 : Int), e = .returned (.int .i64 x3) ∧ w2.heap[w.heap.size]? = w1.drew.heap[w.heap.size]? ∧ w2.heap[w0.heap.size]? = w1.drew.heap[w0.heap.size]? ∧
 LoadL w2 (some ⟨w.heap.size, 2, none⟩) 0 [.int .i64 a0_2] ∧ Calls Tryz.prog n_cell_Div #[.int .i64 a0_2, .int .i64 16] w2 (fun e w4 => ∃ (x5 : Int), e = .returned (.int .i64 x5) ∧ w4.heap[w.heap.size]? = w2.heap[w.heap.size]? ∧ w4.heap[w0.heap.size]? = w2.heap[w0.heap.size]? ∧
 ∀ w6 : World, w6 = w4.setRow w0.heap.size #[.int .i64 x3, .int .i64 x5] →
 R (.returned (.agg #[.int .i64 x3, .int .i64 x5])) w6))
theorem cell_Chunk.vc {a0_0 a0_1 a0_2 w} {R : Ending → World → Prop} (h : cell_Chunk.pre a0_0 a0_1 a0_2 w R) : Calls Tryz.prog n_cell_Chunk #[.agg #[.int .i64 a0_0, .int .i64 a0_1, .int .i64 a0_2]] w R :=
 calls_of_eq (an := ⟨[], [], []⟩) (args := [.agg #[.int .i64 a0_0, .int .i64 a0_1, .int .i64 a0_2]]) Tryz.noNG Tryz.mixed Tryz.func172 h (by kernel_rfl)
def chunk_Chunk_At.pre (a0 : Addr) (a1_0 : Int) (a1_1 : Int) (a1_2 : Int) (w : World) (R : Ending → World → Prop) : Prop :=
 ∀ w0 : World, w0 = w.alloc (.cells #[.int .i64 a1_0, .int .i64 a1_1, .int .i64 a1_2] 23) →
 ∃ (x1 : Int) (x2 : Int), LoadL w0.drew (padd (some a0) 0) 0 [.int .i64 x1, .int .i64 x2] ∧
 Calls Tryz.prog n_chunk_place_index #[.agg #[.int .i64 x1, .int .i64 x2], .agg #[.int .i64 a1_0, .int .i64 a1_1, .int .i64 a1_2]] w0.drew (fun e w3 => ∃ (x4 : Int) (b5 : Bool), e = .returned (.tuple #[.int .i64 x4, .bool b5]) ∧ w3.heap[w.heap.size]? = w0.drew.heap[w.heap.size]? ∧
 Br (!b5)
 (R (.returned (.tuple #[.int .i64 0, .bool false])) w3)
 (∃ (s6 : Sl), ld w3 (padd (some a0) 2) = some (.slice s6.a s6.n s6.c) ∧
 Calls Tryz.prog n_runs_At #[.slice s6.a s6.n s6.c, .int .i64 x4] w3 (fun e w7 => ∃ (x8 : Int), e = .returned (.int .i64 x8) ∧ w7.heap[w.heap.size]? = w3.heap[w.heap.size]? ∧
 R (.returned (.tuple #[.int .i64 x8, .bool true])) w7)))
theorem chunk_Chunk_At.vc {a0 a1_0 a1_1 a1_2 w} {R : Ending → World → Prop} (h : chunk_Chunk_At.pre a0 a1_0 a1_1 a1_2 w R) : Calls Tryz.prog n_chunk_Chunk_At #[.pointer (some a0), .agg #[.int .i64 a1_0, .int .i64 a1_1, .int .i64 a1_2]] w R :=
 calls_of_eq (an := ⟨[], [], []⟩) (args := [.pointer (some a0), .agg #[.int .i64 a1_0, .int .i64 a1_1, .int .i64 a1_2]]) Tryz.noNG Tryz.mixed Tryz.func173 h (by kernel_rfl)
def block_Falls.pre (a0 : Int) (w : World) (R : Ending → World → Prop) : Prop :=
 R (.returned (.bool ((a0 : Int) == 3))) w
theorem block_Falls.vc {a0 w} {R : Ending → World → Prop} (h : block_Falls.pre a0 w R) : Calls Tryz.prog n_block_Falls #[.int .i64 a0] w R :=
 calls_of_eq (an := ⟨[], [], []⟩) (args := [.int .i64 a0]) Tryz.noNG Tryz.mixed Tryz.func222 h (by kernel_rfl)
def block_Solid.pre (a0 : Int) (w : World) (R : Ending → World → Prop) : Prop :=
 Br ((a0 : Int) == (-1))
 (Br ((a0 : Int) == (-1))
 (R (.returned (.bool true)) w)
 (R (.returned (.bool false)) w))
 (Br ((a0 : Int) == 1)
 (Br ((a0 : Int) == 1)
 (R (.returned (.bool true)) w)
 (R (.returned (.bool false)) w))
 (Br ((a0 : Int) == 2)
 (Br ((a0 : Int) == 2)
 (R (.returned (.bool true)) w)
 (R (.returned (.bool false)) w))
 (Br ((a0 : Int) == 3)
 (Br ((a0 : Int) == 3)
 (R (.returned (.bool true)) w)
 (R (.returned (.bool false)) w))
 (Br ((a0 : Int) == 5)
 (R (.returned (.bool true)) w)
 (R (.returned (.bool false)) w)))))
theorem block_Solid.vc {a0 w} {R : Ending → World → Prop} (h : block_Solid.pre a0 w R) : Calls Tryz.prog n_block_Solid #[.int .i64 a0] w R :=
 calls_of_eq (an := ⟨[], [], []⟩) (args := [.int .i64 a0]) Tryz.noNG Tryz.mixed Tryz.func187 h (by kernel_rfl)
end Go.Proofs.YtjcnjlaelhdjeaaGreatDoor
