import Derived.Test.YtjcnjlaelhdjeaaGreatDoorE
set_option linter.all false
namespace Go.Proofs.YtjcnjlaelhdjeaaGreatDoor
open Go Go.Vc Go.RowKit Go.Proofs
set_option maxRecDepth 100000
set_option maxHeartbeats 8000000
set_option linter.unusedVariables false
abbrev n_disk_Disk_failed : FuncId := 345
abbrev n_disk_Disk_Put : FuncId := 293
abbrev n_disk_Disk_Sync : FuncId := 294
abbrev n_disk_bytes : FuncId := 346
abbrev n_store_put : FuncId := 342
abbrev n_store_take : FuncId := 336
abbrev n_store_Write : FuncId := 292
abbrev n_store_Store_Save : FuncId := 235
abbrev n_store_Store_ofb : FuncId := 231
abbrev n_crc_Put : FuncId := 343
abbrev n_crc_Good : FuncId := 370
abbrev n_crc_Of : FuncId := 373
abbrev n_crc_Check_Bytes : FuncId := 374
abbrev n_crc_Start : FuncId := 387
abbrev n_crc_Check_With : FuncId := 388
abbrev n_crc_steps : FuncId := 394
abbrev n_crc_steps_1 : FuncId := 398
abbrev n_slices_Concat_byte : FuncId := 344
abbrev n_slices_Grow_byte : FuncId := 375
def disk_Disk_failed.pre (a0 : Addr) (w : World) (R : Ending → World → Prop) : Prop :=
 ∃ (x0 : Int), ld w (padd (some a0) 2) = some (.int .i64 x0) ∧
 Br (decide ((x0 : Int) > 0))
 (∃ (x1 : Int), ld w (padd (some a0) 2) = some (.int .i64 x1) ∧
 (true = true ∧ Wr w (padd (some a0) 2) 1) ∧ (∀ w2 : World, w2 = setP w (padd (some a0) 2) [.int .i64 (IntKind.wrap .i64 (x1 - 1))] →
 R (.returned (.bool false)) w2))
 (∃ (x3 : Int), ld w (padd (some a0) 1) = some (.int .i64 x3) ∧
 Br (decide ((x3 : Int) > 0))
 (∃ (x4 : Int), ld w (padd (some a0) 1) = some (.int .i64 x4) ∧
 (true = true ∧ Wr w (padd (some a0) 1) 1) ∧ (∀ w5 : World, w5 = setP w (padd (some a0) 1) [.int .i64 (IntKind.wrap .i64 (x4 - 1))] →
 R (.returned (.bool (decide ((x3 : Int) > 0)))) w5))
 (R (.returned (.bool (decide ((x3 : Int) > 0)))) w))
theorem disk_Disk_failed.vc {a0 w} {R : Ending → World → Prop} (h : disk_Disk_failed.pre a0 w R) : Calls Tryz.prog n_disk_Disk_failed #[.pointer (some a0)] w R :=
 calls_of_eq (an := ⟨[], [], []⟩) (args := [.pointer (some a0)]) Tryz.noNG Tryz.mixed Tryz.func345 h (by kernel_rfl)
def disk_Disk_Put.pre (a0 : Addr) (a1 : Int) (a2 : Sl) (w : World) (R : Ending → World → Prop) : Prop :=
 Calls Tryz.prog n_disk_Disk_failed #[.pointer (some a0)] w (fun e w0 => ∃ (b1 : Bool), e = .returned (.bool b1) ∧
 Br b1
 (R (.returned (.int .i64 9)) w0)
 (Calls Tryz.prog 333 #[.pointer (some a0)] w0 (fun e w2 => ∃ (m3 : Option Nat), e = .returned (.map m3) ∧
 ∃ (x4 : Int), ld w2.drew (padd (some a0) 0) = some (.int .i64 x4) ∧
 (Calls Tryz.prog n_disk_bytes #[.map m3] w2.drew (fun e w5 => ∃ (x6 : Int), e = .returned (.int .i64 x6) ∧
 LoadL w5 (padd (some a0) 0) 0 [.int .i64 x4] ∧ ∃ (G7 : Value → Prop) (kvs8 : List (Value × Value)), KeyOk Tryz.prog 3 G7 ∧ MapIs G7 w5 m3 kvs8 ∧ G7 (.int .i64 a1) ∧ ∃ (s9 : Sl), ∃ b10 : Bool, Look kvs8 (.int .i64 a1) (.slice none 0 0) (.slice s9.a s9.n s9.c) b10 ∧
 LoadL w5 (padd (some a0) 0) 0 [.int .i64 x4] ∧ Br (decide (((IntKind.wrap .i64 (x6 - ((s9.n : Nat) : Int))) : Int) > (IntKind.wrap .i64 (x4 - ((a2.n : Nat) : Int)))))
 (R (.returned (.int .i64 8)) w5)
 (∃ (s11 : Sl), ld w5.drew (padd (some a0) 4) = some (.slice s11.a s11.n s11.c) ∧
 Calls Tryz.prog 334 #[.slice a2.a a2.n a2.c] w5.drew (fun e w12 => ∃ (s13 : Sl), e = .returned (.slice s13.a s13.n s13.c) ∧
 LoadL w12 (padd (some a0) 4) 0 [.slice s11.a s11.n s11.c] ∧ ∀ w14 : World, w14 = w12.alloc (.cells #[.int .i64 a1, .slice s13.a s13.n s13.c] 337) →
 AppPre 32 2 w14 ⟨s11.a, s11.n, s11.c⟩ 1 [.int .i64 a1, .slice s13.a s13.n s13.c] ∧ ∀ (s15 : Sl) (w16 : World), AppRes 337 2 w14 ⟨s11.a, s11.n, s11.c⟩ 1 [.int .i64 a1, .slice s13.a s13.n s13.c] s15 w16 → w16.heap[w12.heap.size]? = w14.heap[w12.heap.size]? ∧
 (true = true ∧ Wr w16 (padd (some a0) 4) 1) ∧ pblk (padd (some a0) 4) ≠ some w12.heap.size ∧ (∀ w17 : World, w17 = setP w16 (padd (some a0) 4) [.slice s15.a s15.n s15.c] →
 R (.returned (.int .i64 0)) w17))))) ∧ (∃ (G18 : Value → Prop) (kvs19 : List (Value × Value)), KeyOk Tryz.prog 3 G18 ∧ MapIs G18 w2.drew m3 kvs19 ∧ G18 (.int .i64 a1) ∧ ∃ (s20 : Sl), ∃ b21 : Bool, Look kvs19 (.int .i64 a1) (.slice none 0 0) (.slice s20.a s20.n s20.c) b21 ∧
 LoadL w2.drew (padd (some a0) 0) 0 [.int .i64 x4] ∧ Calls Tryz.prog n_disk_bytes #[.map m3] w2.drew (fun e w22 => ∃ (x23 : Int), e = .returned (.int .i64 x23) ∧
 LoadL w22 (padd (some a0) 0) 0 [.int .i64 x4] ∧ Br (decide (((IntKind.wrap .i64 (x23 - ((s20.n : Nat) : Int))) : Int) > (IntKind.wrap .i64 (x4 - ((a2.n : Nat) : Int)))))
 (R (.returned (.int .i64 8)) w22)
 (∃ (s24 : Sl), ld w22.drew (padd (some a0) 4) = some (.slice s24.a s24.n s24.c) ∧
 Calls Tryz.prog 334 #[.slice a2.a a2.n a2.c] w22.drew (fun e w25 => ∃ (s26 : Sl), e = .returned (.slice s26.a s26.n s26.c) ∧
 LoadL w25 (padd (some a0) 4) 0 [.slice s24.a s24.n s24.c] ∧ ∀ w27 : World, w27 = w25.alloc (.cells #[.int .i64 a1, .slice s26.a s26.n s26.c] 337) →
 AppPre 32 2 w27 ⟨s24.a, s24.n, s24.c⟩ 1 [.int .i64 a1, .slice s26.a s26.n s26.c] ∧ ∀ (s28 : Sl) (w29 : World), AppRes 337 2 w27 ⟨s24.a, s24.n, s24.c⟩ 1 [.int .i64 a1, .slice s26.a s26.n s26.c] s28 w29 → w29.heap[w25.heap.size]? = w27.heap[w25.heap.size]? ∧
 (true = true ∧ Wr w29 (padd (some a0) 4) 1) ∧ pblk (padd (some a0) 4) ≠ some w25.heap.size ∧ (∀ w30 : World, w30 = setP w29 (padd (some a0) 4) [.slice s28.a s28.n s28.c] →
 R (.returned (.int .i64 0)) w30))))))))
theorem disk_Disk_Put.vc {a0 a1 a2 w} {R : Ending → World → Prop} (h : disk_Disk_Put.pre a0 a1 a2 w R) : Calls Tryz.prog n_disk_Disk_Put #[.pointer (some a0), .int .i64 a1, .slice a2.a a2.n a2.c] w R :=
 calls_of_eq (an := ⟨[], [], []⟩) (args := [.pointer (some a0), .int .i64 a1, .slice a2.a a2.n a2.c]) Tryz.noNG Tryz.mixed Tryz.func293 h (by kernel_rfl)
def disk_Disk_Sync.pre (a0 : Addr) (w : World) (R : Ending → World → Prop) : Prop :=
 Calls Tryz.prog n_disk_Disk_failed #[.pointer (some a0)] w (fun e w0 => ∃ (b1 : Bool), e = .returned (.bool b1) ∧
 Br b1
 (R (.returned (.int .i64 9)) w0)
 (Calls Tryz.prog 333 #[.pointer (some a0)] w0 (fun e w2 => ∃ (m3 : Option Nat), e = .returned (.map m3) ∧
 (true = true ∧ Wr w2 (padd (some a0) 3) 1) ∧ (∀ w4 : World, w4 = setP w2 (padd (some a0) 3) [.map m3] →
 (true = true ∧ Wr w4 (padd (some a0) 4) 1) ∧ (∀ w5 : World, w5 = setP w4 (padd (some a0) 4) [.slice none 0 0] →
 R (.returned (.int .i64 0)) w5)))))
theorem disk_Disk_Sync.vc {a0 w} {R : Ending → World → Prop} (h : disk_Disk_Sync.pre a0 w R) : Calls Tryz.prog n_disk_Disk_Sync #[.pointer (some a0)] w R :=
 calls_of_eq (an := ⟨[], [], []⟩) (args := [.pointer (some a0)]) Tryz.noNG Tryz.mixed Tryz.func294 h (by kernel_rfl)
def store_put.pre (a0 : Sl) (a1 : Int) (a2 : Int) (w : World) (R : Ending → World → Prop) : Prop :=
 ∃ I0 : Nat → Int → Sl → World → Prop,
 (∃ n1, I0 n1 ((IntKind.wrap .i64 (a2 - 1))) ⟨a0.a, a0.n, a0.c⟩ w) ∧
 ∀ (n1 : Nat) (us2 : Nat → Value) (x3 : Int) (s4 : Sl) (w5 : World), I0 n1 x3 s4 w5 →
 Br (decide ((x3 : Int) ≥ 0))
 (AndL (ngC (IntKind.wrap .i64 (8 * x3))) (∀ w7 : World, w7 = w5.alloc (.cells #[.int .u8 (IntKind.wrap .u8 ((a1 : Int).fdiv (2 ^ (min ((IntKind.wrap .i64 (8 * x3)) : Int).toNat 64))))] 5) →
 AppPre 1 1 w7 ⟨s4.a, s4.n, s4.c⟩ 1 [.int .u8 (IntKind.wrap .u8 ((a1 : Int).fdiv (2 ^ (min ((IntKind.wrap .i64 (8 * x3)) : Int).toNat 64))))] ∧ ∀ (s8 : Sl) (w9 : World), AppRes 5 1 w7 ⟨s4.a, s4.n, s4.c⟩ 1 [.int .u8 (IntKind.wrap .u8 ((a1 : Int).fdiv (2 ^ (min ((IntKind.wrap .i64 (8 * x3)) : Int).toNat 64))))] s8 w9 → w9.heap[w5.heap.size]? = w7.heap[w5.heap.size]? ∧
 ∃ n6, n6 < n1 ∧ I0 n6 ((IntKind.wrap .i64 (x3 - 1))) ⟨s8.a, s8.n, s8.c⟩ w9))
 (R (.returned (.slice s4.a s4.n s4.c)) w5)
theorem store_put.vc {a0 a1 a2 w} {R : Ending → World → Prop} (h : store_put.pre a0 a1 a2 w R) : Calls Tryz.prog n_store_put #[.slice a0.a a0.n a0.c, .int .i64 a1, .int .i64 a2] w R :=
 calls_of_eq (an := ⟨[(2, ⟨[(7, .int .i64), (0, .slice)], [], []⟩)], [], []⟩) (args := [.slice a0.a a0.n a0.c, .int .i64 a1, .int .i64 a2]) Tryz.noNG Tryz.mixed Tryz.func342 h (by kernel_rfl)
def store_take.pre (a0 : Sl) (w : World) (R : Ending → World → Prop) : Prop :=
 ∃ I0 : Nat → Int → Int → World → Prop,
 (∃ n1, I0 n1 (0) (0) w) ∧
 ∀ (n1 : Nat) (us2 : Nat → Value) (x3 : Int) (x4 : Int) (w5 : World), I0 n1 x3 x4 w5 →
 Br (decide ((x3 : Int) < ((a0.n : Nat) : Int)))
 (InB a0.a x3 a0.n ∧ ∃ (x7 : Int), ld w5 (padd a0.a ((x3 : Int).toNat * 1)) = some (.int .u8 x7) ∧
 ∃ n6, n6 < n1 ∧ I0 n6 ((IntKind.wrap .i64 (x3 + 1))) ((bOr .i64 (IntKind.wrap .i64 (x4 * 2 ^ (min (8 : Int).toNat 64))) (IntKind.wrap .i64 x7))) w5)
 (R (.returned (.int .i64 x4)) w5)
theorem store_take.vc {a0 w} {R : Ending → World → Prop} (h : store_take.pre a0 w R) : Calls Tryz.prog n_store_take #[.slice a0.a a0.n a0.c] w R :=
 calls_of_eq (an := ⟨[(3, ⟨[(8, .int .i64), (3, .int .i64)], [], []⟩)], [], []⟩) (args := [.slice a0.a a0.n a0.c]) Tryz.noNG Tryz.mixed Tryz.func336 h (by kernel_rfl)
def store_Write.pre (a0 : Int) (a1 : Sl) (w : World) (R : Ending → World → Prop) : Prop :=
 Br (decide ((a0 : Int) < 1))
 (R (.returned (.tuple #[.slice none 0 0, .int .i64 1])) w)
 (Br (decide ((a0 : Int) > 1073741824))
 (R (.returned (.tuple #[.slice none 0 0, .int .i64 1])) w)
 (Br (decide ((((a1.n : Nat) : Int) : Int) > 65536))
 (R (.returned (.tuple #[.slice none 0 0, .int .i64 1])) w)
 (Calls Tryz.prog n_store_put #[.slice none 0 0, .int .i64 a0, .int .i64 4] w (fun e w0 => ∃ (s1 : Sl), e = .returned (.slice s1.a s1.n s1.c) ∧
 Calls Tryz.prog n_store_put #[.slice s1.a s1.n s1.c, .int .i64 ((a1.n : Nat) : Int), .int .i64 3] w0 (fun e w2 => ∃ (s3 : Sl), e = .returned (.slice s3.a s3.n s3.c) ∧
 ∀ w4 : World, w4 = w2.alloc (.cells #[.slice s3.a s3.n s3.c, .slice a1.a a1.n a1.c] 43) →
 Calls Tryz.prog n_slices_Concat_byte #[.slice (some ⟨w2.heap.size, 0, none⟩) 2 2] w4 (fun e w5 => ∃ (s6 : Sl), e = .returned (.slice s6.a s6.n s6.c) ∧
 Calls Tryz.prog n_crc_Put #[.slice s6.a s6.n s6.c] w5 (fun e w7 => ∃ (s8 : Sl), e = .returned (.slice s8.a s8.n s8.c) ∧
 R (.returned (.tuple #[.slice s8.a s8.n s8.c, .int .i64 0])) w7)))))))
theorem store_Write.vc {a0 a1 w} {R : Ending → World → Prop} (h : store_Write.pre a0 a1 w R) : Calls Tryz.prog n_store_Write #[.int .i64 a0, .slice a1.a a1.n a1.c] w R :=
 calls_of_eq (an := ⟨[], [], []⟩) (args := [.int .i64 a0, .slice a1.a a1.n a1.c]) Tryz.noNG Tryz.mixed Tryz.func292 h (by kernel_rfl)
def store_Store_Save.pre (a0 : Addr) (a1 : Int) (a2 : Sl) (w : World) (R : Ending → World → Prop) : Prop :=
 Calls Tryz.prog 230 #[.int .i64 a1] w (fun e w0 => ∃ (b1 : Bool), e = .returned (.bool b1) ∧
 Br (!b1)
 (R (.returned (.int .i64 1)) w0)
 (Calls Tryz.prog n_store_Store_ofb #[.pointer (some a0), .int .i64 a1] w0 (fun e w2 => ∃ (x3 : Int) (x4 : Int) (s5 : Sl), e = .returned (.agg #[.int .i64 x3, .int .i64 x4, .slice s5.a s5.n s5.c]) ∧
 ∀ w6 : World, w6 = w2.alloc (.cells #[.int .i64 0, .int .i64 0, .slice none 0 0] 276) →
 ∀ w7 : World, w7 = w6.setRow w2.heap.size #[.int .i64 x3, .int .i64 x4, .slice s5.a s5.n s5.c] →
 Calls Tryz.prog n_store_Write #[.int .i64 (IntKind.wrap .i64 (x4 + 1)), .slice a2.a a2.n a2.c] w7 (fun e w8 => ∃ (s9 : Sl) (x10 : Int), e = .returned (.tuple #[.slice s9.a s9.n s9.c, .int .i64 x10]) ∧ w8.heap[w2.heap.size]? = w7.heap[w2.heap.size]? ∧
 Br ((x10 : Int) != 0)
 (R (.returned (.int .i64 x10)) w8)
 (∃ (p11 : Option Addr), ld w8.drew (padd (padd (some a0) 0) 0) = some (.pointer p11) ∧
 Calls Tryz.prog n_disk_Disk_Put #[.pointer p11, .int .i64 (bXor .i64 x3 1), .slice s9.a s9.n s9.c] w8.drew (fun e w12 => ∃ (x13 : Int), e = .returned (.int .i64 x13) ∧ w12.heap[w2.heap.size]? = w8.drew.heap[w2.heap.size]? ∧
 LoadL w12 (some ⟨w2.heap.size, 0, none⟩) 0 [.int .i64 x3] ∧ Br ((x13 : Int) != 0)
 (R (.returned (.int .i64 x13)) w12)
 (∃ (p14 : Option Addr), ld w12 (padd (padd (some a0) 0) 0) = some (.pointer p14) ∧
 Calls Tryz.prog n_disk_Disk_Sync #[.pointer p14] w12 (fun e w15 => ∃ (x16 : Int), e = .returned (.int .i64 x16) ∧ w15.heap[w2.heap.size]? = w12.heap[w2.heap.size]? ∧
 R (.returned (.int .i64 x16)) w15))))))))
theorem store_Store_Save.vc {a0 a1 a2 w} {R : Ending → World → Prop} (h : store_Store_Save.pre a0 a1 a2 w R) : Calls Tryz.prog n_store_Store_Save #[.pointer (some a0), .int .i64 a1, .slice a2.a a2.n a2.c] w R :=
 calls_of_eq (an := ⟨[], [], []⟩) (args := [.pointer (some a0), .int .i64 a1, .slice a2.a a2.n a2.c]) Tryz.noNG Tryz.mixed Tryz.func235 h (by kernel_rfl)
def store_Store_ofb.pre (a0 : Addr) (a1 : Int) (w : World) (R : Ending → World → Prop) : Prop :=
 ∀ w0 : World, w0 = w.alloc (.cells #[.int .i64 0, .int .i64 0, .slice none 0 0] 276) →
 ∀ w1 : World, w1 = w0.alloc (.cells #[.int .i64 0, .int .i64 0, .slice none 0 0] 276) →
 ∀ w2 : World, w2 = w1.setRow w0.heap.size #[.int .i64 (IntKind.wrap .i64 ((IntKind.wrap .i64 (2 * a1)) + 1)), .int .i64 0, .slice none 0 0] →
 ∃ I3 : Nat → Int → Int → Int → Sl → World → Prop,
 (∃ n4, ([.int .i64 0, .int .i64 0, .slice none 0 0] : List Value) = [.int .i64 0, .int .i64 0, .slice none 0 0] ∧ I3 n4 (0) ((IntKind.wrap .i64 ((IntKind.wrap .i64 (2 * a1)) + 1))) (0) ⟨none, 0, 0⟩ w2) ∧
 ∀ (n4 : Nat) (us5 : Nat → Value) (x6 : Int) (x7 : Int) (x8 : Int) (s9 : Sl) (w10 : World), I3 n4 x6 x7 x8 s9 w10 →
 Br (decide ((x6 : Int) < 2))
 (((0 : Int) ≤ x6 ∧ (x6 : Int) < ((2 : Nat) : Int)) ∧ ∃ (x12 : Int), ([.int .i64 (IntKind.wrap .i64 (2 * a1)), .int .i64 (IntKind.wrap .i64 ((IntKind.wrap .i64 (2 * a1)) + 1))] : List Value)[(x6 : Int).toNat * 1]? = some (.int .i64 x12) ∧
 ∃ (p13 : Option Addr), ld w10 (padd (padd (some a0) 0) 0) = some (.pointer p13) ∧
 Calls Tryz.prog 284 #[.pointer p13, .int .i64 x12] w10 (fun e w14 => ∃ (s15 : Sl) (b16 : Bool), e = .returned (.tuple #[.slice s15.a s15.n s15.c, .bool b16]) ∧ w14.heap[w.heap.size]? = w10.heap[w.heap.size]? ∧ w14.heap[w0.heap.size]? = w10.heap[w0.heap.size]? ∧
 Calls Tryz.prog 285 #[.slice s15.a s15.n s15.c] w14 (fun e w17 => ∃ (x18 : Int) (s19 : Sl) (x20 : Int), e = .returned (.tuple #[.int .i64 x18, .slice s19.a s19.n s19.c, .int .i64 x20]) ∧ w17.heap[w.heap.size]? = w14.heap[w.heap.size]? ∧ w17.heap[w0.heap.size]? = w14.heap[w0.heap.size]? ∧
 Br ((x20 : Int) == 0)
 (Br (decide ((x18 : Int) > x8))
 (∀ w21 : World, w21 = w17.setRow w0.heap.size #[.int .i64 x12, .int .i64 x18, .slice s19.a s19.n s19.c] →
 ∃ n11, n11 < n4 ∧ ([.int .i64 0, .int .i64 0, .slice none 0 0] : List Value) = [.int .i64 0, .int .i64 0, .slice none 0 0] ∧ I3 n11 ((IntKind.wrap .i64 (x6 + 1))) (x12) (x18) ⟨s19.a, s19.n, s19.c⟩ w21)
 (∃ n11, n11 < n4 ∧ ([.int .i64 0, .int .i64 0, .slice none 0 0] : List Value) = [.int .i64 0, .int .i64 0, .slice none 0 0] ∧ I3 n11 ((IntKind.wrap .i64 (x6 + 1))) (x7) (x8) ⟨s9.a, s9.n, s9.c⟩ w17))
 (∃ n11, n11 < n4 ∧ ([.int .i64 0, .int .i64 0, .slice none 0 0] : List Value) = [.int .i64 0, .int .i64 0, .slice none 0 0] ∧ I3 n11 ((IntKind.wrap .i64 (x6 + 1))) (x7) (x8) ⟨s9.a, s9.n, s9.c⟩ w17))))
 (∀ w22 : World, w22 = w10.setRow w.heap.size #[.int .i64 x7, .int .i64 x8, .slice s9.a s9.n s9.c] →
 R (.returned (.agg #[.int .i64 x7, .int .i64 x8, .slice s9.a s9.n s9.c])) w22)
theorem store_Store_ofb.vc {a0 a1 w} {R : Ending → World → Prop} (h : store_Store_ofb.pre a0 a1 w R) : Calls Tryz.prog n_store_Store_ofb #[.pointer (some a0), .int .i64 a1] w R :=
 calls_of_eq (an := ⟨[(3, ⟨[(23, .int .i64)], [(1, [.int .i64, .int .i64, .slice])], []⟩)], [], []⟩) (args := [.pointer (some a0), .int .i64 a1]) Tryz.noNG Tryz.mixed Tryz.func231 h (by kernel_rfl)
def crc_Put.pre (a0 : Sl) (w : World) (R : Ending → World → Prop) : Prop :=
 Calls Tryz.prog n_crc_Of #[.slice a0.a a0.n a0.c] w (fun e w0 => ∃ (x1 : Int), e = .returned (.int .u16 x1) ∧
 Calls Tryz.prog n_crc_Check_Bytes #[.int .u16 x1] w0 (fun e w2 => ∃ (x3 : Int) (x4 : Int), e = .returned (.agg #[.int .u8 x3, .int .u8 x4]) ∧
 ∀ w5 : World, w5 = w2.alloc (.cells #[.int .u8 0, .int .u8 0] 396) →
 (true = true ∧ Wr w5 (some ⟨w2.heap.size, 0, none⟩) 2) ∧ (∀ w6 : World, w6 = setP w5 (some ⟨w2.heap.size, 0, none⟩) [.int .u8 x3, .int .u8 x4] →
 ∀ w7 : World, w7 = w6.alloc (.cells #[.slice a0.a a0.n a0.c, .slice (slBase (some ⟨w2.heap.size, 0, none⟩) (0) (2) 1) (2 - 0) (2 - 0)] 43) →
 Calls Tryz.prog n_slices_Concat_byte #[.slice (some ⟨w6.heap.size, 0, none⟩) 2 2] w7 (fun e w8 => ∃ (s9 : Sl), e = .returned (.slice s9.a s9.n s9.c) ∧
 R (.returned (.slice s9.a s9.n s9.c)) w8))))
theorem crc_Put.vc {a0 w} {R : Ending → World → Prop} (h : crc_Put.pre a0 w R) : Calls Tryz.prog n_crc_Put #[.slice a0.a a0.n a0.c] w R :=
 calls_of_eq (an := ⟨[], [], []⟩) (args := [.slice a0.a a0.n a0.c]) Tryz.noNG Tryz.mixed Tryz.func343 h (by kernel_rfl)
def crc_Good.pre (a0 : Sl) (w : World) (R : Ending → World → Prop) : Prop :=
 Br (decide ((((a0.n : Nat) : Int) : Int) ≥ 2))
 (Calls Tryz.prog n_crc_Of #[.slice a0.a a0.n a0.c] w (fun e w0 => ∃ (x1 : Int), e = .returned (.int .u16 x1) ∧
 R (.returned (.bool ((x1 : Int) == 0))) w0))
 (R (.returned (.bool false)) w)
theorem crc_Good.vc {a0 w} {R : Ending → World → Prop} (h : crc_Good.pre a0 w R) : Calls Tryz.prog n_crc_Good #[.slice a0.a a0.n a0.c] w R :=
 calls_of_eq (an := ⟨[], [], []⟩) (args := [.slice a0.a a0.n a0.c]) Tryz.noNG Tryz.mixed Tryz.func370 h (by kernel_rfl)
def crc_Of.pre (a0 : Sl) (w : World) (R : Ending → World → Prop) : Prop :=
 Calls Tryz.prog n_crc_Start #[] w (fun e w0 => ∃ (x1 : Int), e = .returned (.int .u16 x1) ∧
 Calls Tryz.prog n_crc_Check_With #[.int .u16 x1, .slice a0.a a0.n a0.c] w0 (fun e w2 => ∃ (x3 : Int), e = .returned (.int .u16 x3) ∧
 R (.returned (.int .u16 x3)) w2))
theorem crc_Of.vc {a0 w} {R : Ending → World → Prop} (h : crc_Of.pre a0 w R) : Calls Tryz.prog n_crc_Of #[.slice a0.a a0.n a0.c] w R :=
 calls_of_eq (an := ⟨[], [], []⟩) (args := [.slice a0.a a0.n a0.c]) Tryz.noNG Tryz.mixed Tryz.func373 h (by kernel_rfl)
def crc_Check_Bytes.pre (a0 : Int) (w : World) (R : Ending → World → Prop) : Prop :=
 ∀ w0 : World, w0 = w.alloc (.cells #[.int .u8 0, .int .u8 0] 396) →
 (true = true ∧ Wr w0 (some ⟨w.heap.size, 0, none⟩) 2) ∧ (∀ w1 : World, w1 = setP w0 (some ⟨w.heap.size, 0, none⟩) [.int .u8 (IntKind.wrap .u8 ((a0 : Int).fdiv (2 ^ (min (8 : Int).toNat 16)))), .int .u8 (IntKind.wrap .u8 a0)] →
 ∃ (x2 : Int) (x3 : Int), LoadL w1 (some ⟨w.heap.size, 0, none⟩) 0 [.int .u8 x2, .int .u8 x3] ∧
 R (.returned (.agg #[.int .u8 x2, .int .u8 x3])) w1)
theorem crc_Check_Bytes.vc {a0 w} {R : Ending → World → Prop} (h : crc_Check_Bytes.pre a0 w R) : Calls Tryz.prog n_crc_Check_Bytes #[.int .u16 a0] w R :=
 calls_of_eq (an := ⟨[], [], []⟩) (args := [.int .u16 a0]) Tryz.noNG Tryz.mixed Tryz.func374 h (by kernel_rfl)
def crc_Start.pre  (w : World) (R : Ending → World → Prop) : Prop :=
 R (.returned (.int .u16 65535)) w
theorem crc_Start.vc {w} {R : Ending → World → Prop} (h : crc_Start.pre  w R) : Calls Tryz.prog n_crc_Start #[] w R :=
 calls_of_eq (an := ⟨[], [], []⟩) (args := []) Tryz.noNG Tryz.mixed Tryz.func387 h (by kernel_rfl)
def crc_Check_With.pre (a0 : Int) (a1 : Sl) (w : World) (R : Ending → World → Prop) : Prop :=
 Calls Tryz.prog n_crc_steps #[] w (fun e w0 => ∃ (x1 : Int) (x2 : Int) (x3 : Int) (x4 : Int) (x5 : Int) (x6 : Int) (x7 : Int) (x8 : Int) (x9 : Int) (x10 : Int) (x11 : Int) (x12 : Int) (x13 : Int) (x14 : Int) (x15 : Int) (x16 : Int), e = .returned (.agg #[.int .u16 x1, .int .u16 x2, .int .u16 x3, .int .u16 x4, .int .u16 x5, .int .u16 x6, .int .u16 x7, .int .u16 x8, .int .u16 x9, .int .u16 x10, .int .u16 x11, .int .u16 x12, .int .u16 x13, .int .u16 x14, .int .u16 x15, .int .u16 x16]) ∧
 ∀ w17 : World, w17 = w0.alloc (.cells #[.int .u16 0, .int .u16 0, .int .u16 0, .int .u16 0, .int .u16 0, .int .u16 0, .int .u16 0, .int .u16 0, .int .u16 0, .int .u16 0, .int .u16 0, .int .u16 0, .int .u16 0, .int .u16 0, .int .u16 0, .int .u16 0] 417) →
 (true = true ∧ Wr w17 (some ⟨w0.heap.size, 0, none⟩) 16) ∧ (∀ w18 : World, w18 = setP w17 (some ⟨w0.heap.size, 0, none⟩) [.int .u16 x1, .int .u16 x2, .int .u16 x3, .int .u16 x4, .int .u16 x5, .int .u16 x6, .int .u16 x7, .int .u16 x8, .int .u16 x9, .int .u16 x10, .int .u16 x11, .int .u16 x12, .int .u16 x13, .int .u16 x14, .int .u16 x15, .int .u16 x16] →
 ∃ I19 : Nat → Int → Int → World → Prop,
 (∃ n20, I19 n20 (0) (a0) w18) ∧
 ∀ (n20 : Nat) (us21 : Nat → Value) (x22 : Int) (x23 : Int) (w24 : World), I19 n20 x22 x23 w24 →
 Br (decide ((x22 : Int) < ((a1.n : Nat) : Int)))
 (InB a1.a x22 a1.n ∧ ∃ (x26 : Int), ld w24 (padd a1.a ((x22 : Int).toNat * 1)) = some (.int .u8 x26) ∧
 (0 : Int) ≤ (bXor .u16 ((x23 : Int).fdiv (2 ^ (min (12 : Int).toNat 16))) (IntKind.wrap .u16 ((x26 : Int).fdiv (2 ^ (min (4 : Int).toNat 8))))) ∧ ((bXor .u16 ((x23 : Int).fdiv (2 ^ (min (12 : Int).toNat 16))) (IntKind.wrap .u16 ((x26 : Int).fdiv (2 ^ (min (4 : Int).toNat 8))))) : Int) < ((16 : Nat) : Int) ∧ ∃ (x27 : Int), ld w24 (padd (some ⟨w0.heap.size, 0, none⟩) (((bXor .u16 ((x23 : Int).fdiv (2 ^ (min (12 : Int).toNat 16))) (IntKind.wrap .u16 ((x26 : Int).fdiv (2 ^ (min (4 : Int).toNat 8))))) : Int).toNat * 1)) = some (.int .u16 x27) ∧
 (0 : Int) ≤ (bXor .u16 (((bXor .u16 (IntKind.wrap .u16 (x23 * 2 ^ (min (4 : Int).toNat 16))) x27) : Int).fdiv (2 ^ (min (12 : Int).toNat 16))) (IntKind.wrap .u16 (bAnd .u8 x26 15))) ∧ ((bXor .u16 (((bXor .u16 (IntKind.wrap .u16 (x23 * 2 ^ (min (4 : Int).toNat 16))) x27) : Int).fdiv (2 ^ (min (12 : Int).toNat 16))) (IntKind.wrap .u16 (bAnd .u8 x26 15))) : Int) < ((16 : Nat) : Int) ∧ ∃ (x28 : Int), ld w24 (padd (some ⟨w0.heap.size, 0, none⟩) (((bXor .u16 (((bXor .u16 (IntKind.wrap .u16 (x23 * 2 ^ (min (4 : Int).toNat 16))) x27) : Int).fdiv (2 ^ (min (12 : Int).toNat 16))) (IntKind.wrap .u16 (bAnd .u8 x26 15))) : Int).toNat * 1)) = some (.int .u16 x28) ∧
 ∃ n25, n25 < n20 ∧ I19 n25 ((IntKind.wrap .i64 (x22 + 1))) ((bXor .u16 (IntKind.wrap .u16 ((bXor .u16 (IntKind.wrap .u16 (x23 * 2 ^ (min (4 : Int).toNat 16))) x27) * 2 ^ (min (4 : Int).toNat 16))) x28)) w24)
 (R (.returned (.int .u16 x23)) w24)))
theorem crc_Check_With.vc {a0 a1 w} {R : Ending → World → Prop} (h : crc_Check_With.pre a0 a1 w R) : Calls Tryz.prog n_crc_Check_With #[.int .u16 a0, .slice a1.a a1.n a1.c] w R :=
 calls_of_eq (an := ⟨[(3, ⟨[(11, .int .i64), (0, .int .u16)], [], []⟩)], [], []⟩) (args := [.int .u16 a0, .slice a1.a a1.n a1.c]) Tryz.noNG Tryz.mixed Tryz.func388 h (by kernel_rfl)
def crc_steps.pre  (w : World) (R : Ending → World → Prop) : Prop :=
 ∀ w0 : World, w0 = w.alloc (.cells #[.int .u16 0, .int .u16 0, .int .u16 0, .int .u16 0, .int .u16 0, .int .u16 0, .int .u16 0, .int .u16 0, .int .u16 0, .int .u16 0, .int .u16 0, .int .u16 0, .int .u16 0, .int .u16 0, .int .u16 0, .int .u16 0] 417) →
 ∀ w1 : World, w1 = w0.alloc (.cells #[.int .u16 0, .int .u16 0, .int .u16 0, .int .u16 0, .int .u16 0, .int .u16 0, .int .u16 0, .int .u16 0, .int .u16 0, .int .u16 0, .int .u16 0, .int .u16 0, .int .u16 0, .int .u16 0, .int .u16 0, .int .u16 0] 417) →
 ∃ I2 : Nat → Int → World → Prop,
 (∃ n3, I2 n3 (0) w1) ∧
 ∀ (n3 : Nat) (us4 : Nat → Value) (x5 : Int) (w6 : World), I2 n3 x5 w6 →
 Br (decide ((x5 : Int) < 16))
 (∃ I8 : Nat → Int → Int → World → Prop,
 (∃ n9, I8 n9 (0) ((IntKind.wrap .u16 ((IntKind.wrap .u16 x5) * 2 ^ (min (12 : Int).toNat 16)))) w6) ∧
 ∀ (n9 : Nat) (us10 : Nat → Value) (x11 : Int) (x12 : Int) (w13 : World), I8 n9 x11 x12 w13 →
 Br (decide ((x11 : Int) < 4))
 (Calls Tryz.prog n_crc_steps_1 #[.int .u16 x12] w13 (fun e w15 => ∃ (x16 : Int), e = .returned (.int .u16 x16) ∧
 ∃ n14, n14 < n9 ∧ I8 n14 ((IntKind.wrap .i64 (x11 + 1))) (x16) w15))
 ((0 : Int) ≤ x5 ∧ (x5 : Int) < ((16 : Nat) : Int) ∧ (true = true ∧ Wr w13 (padd (some ⟨w0.heap.size, 0, none⟩) ((x5 : Int).toNat * 1)) 1) ∧ (∀ w17 : World, w17 = setP w13 (padd (some ⟨w0.heap.size, 0, none⟩) ((x5 : Int).toNat * 1)) [.int .u16 x12] →
 ∃ n7, n7 < n3 ∧ I2 n7 ((IntKind.wrap .i64 (x5 + 1))) w17)))
 (∃ (x18 : Int) (x19 : Int) (x20 : Int) (x21 : Int) (x22 : Int) (x23 : Int) (x24 : Int) (x25 : Int) (x26 : Int) (x27 : Int) (x28 : Int) (x29 : Int) (x30 : Int) (x31 : Int) (x32 : Int) (x33 : Int), LoadL w6 (some ⟨w0.heap.size, 0, none⟩) 0 [.int .u16 x18, .int .u16 x19, .int .u16 x20, .int .u16 x21, .int .u16 x22, .int .u16 x23, .int .u16 x24, .int .u16 x25, .int .u16 x26, .int .u16 x27, .int .u16 x28, .int .u16 x29, .int .u16 x30, .int .u16 x31, .int .u16 x32, .int .u16 x33] ∧
 (true = true ∧ Wr w6 (some ⟨w.heap.size, 0, none⟩) 16) ∧ (∀ w34 : World, w34 = setP w6 (some ⟨w.heap.size, 0, none⟩) [.int .u16 x18, .int .u16 x19, .int .u16 x20, .int .u16 x21, .int .u16 x22, .int .u16 x23, .int .u16 x24, .int .u16 x25, .int .u16 x26, .int .u16 x27, .int .u16 x28, .int .u16 x29, .int .u16 x30, .int .u16 x31, .int .u16 x32, .int .u16 x33] →
 ∃ (x35 : Int) (x36 : Int) (x37 : Int) (x38 : Int) (x39 : Int) (x40 : Int) (x41 : Int) (x42 : Int) (x43 : Int) (x44 : Int) (x45 : Int) (x46 : Int) (x47 : Int) (x48 : Int) (x49 : Int) (x50 : Int), LoadL w34 (some ⟨w.heap.size, 0, none⟩) 0 [.int .u16 x35, .int .u16 x36, .int .u16 x37, .int .u16 x38, .int .u16 x39, .int .u16 x40, .int .u16 x41, .int .u16 x42, .int .u16 x43, .int .u16 x44, .int .u16 x45, .int .u16 x46, .int .u16 x47, .int .u16 x48, .int .u16 x49, .int .u16 x50] ∧
 R (.returned (.agg #[.int .u16 x35, .int .u16 x36, .int .u16 x37, .int .u16 x38, .int .u16 x39, .int .u16 x40, .int .u16 x41, .int .u16 x42, .int .u16 x43, .int .u16 x44, .int .u16 x45, .int .u16 x46, .int .u16 x47, .int .u16 x48, .int .u16 x49, .int .u16 x50])) w34))
theorem crc_steps.vc {w} {R : Ending → World → Prop} (h : crc_steps.pre  w R) : Calls Tryz.prog n_crc_steps #[] w R :=
 calls_of_eq (an := ⟨[(8, ⟨[(11, .int .i64), (4, .int .u16)], [], []⟩), (4, ⟨[(5, .int .i64)], [], []⟩)], [], []⟩) (args := []) Tryz.noNG Tryz.mixed Tryz.func394 h (by kernel_rfl)
def crc_steps_1.pre (a0 : Int) (w : World) (R : Ending → World → Prop) : Prop :=
 Br (((bAnd .u16 a0 32768) : Int) != 0)
 (R (.returned (.int .u16 (bXor .u16 (IntKind.wrap .u16 (a0 * 2 ^ (min (1 : Int).toNat 16))) 4129))) w)
 (R (.returned (.int .u16 (IntKind.wrap .u16 (a0 * 2 ^ (min (1 : Int).toNat 16))))) w)
theorem crc_steps_1.vc {a0 w} {R : Ending → World → Prop} (h : crc_steps_1.pre a0 w R) : Calls Tryz.prog n_crc_steps_1 #[.int .u16 a0] w R :=
 calls_of_eq (an := ⟨[], [], []⟩) (args := [.int .u16 a0]) Tryz.noNG Tryz.mixed Tryz.func398 h (by kernel_rfl)
def slices_Concat_byte.pre (a0 : Sl) (w : World) (R : Ending → World → Prop) : Prop :=
 ∃ I0 : Nat → Int → Int → World → Prop,
 (∃ n1, I0 n1 (0) (0) w) ∧
 ∀ (n1 : Nat) (us2 : Nat → Value) (x3 : Int) (x4 : Int) (w5 : World), I0 n1 x3 x4 w5 →
 Br (decide ((x3 : Int) < ((a0.n : Nat) : Int)))
 (InB a0.a x3 a0.n ∧ ∃ (s7 : Sl), ld w5 (padd a0.a ((x3 : Int).toNat * 1)) = some (.slice s7.a s7.n s7.c) ∧
 Br (decide (((IntKind.wrap .i64 (x4 + ((s7.n : Nat) : Int))) : Int) < 0))
 (False)
 (∃ n6, n6 < n1 ∧ I0 n6 ((IntKind.wrap .i64 (x3 + 1))) ((IntKind.wrap .i64 (x4 + ((s7.n : Nat) : Int)))) w5))
 (Calls Tryz.prog n_slices_Grow_byte #[.slice none 0 0, .int .i64 x4] w5 (fun e w8 => ∃ (s9 : Sl), e = .returned (.slice s9.a s9.n s9.c) ∧
 ∃ I10 : Nat → Int → Sl → World → Prop,
 (∃ n11, I10 n11 (0) ⟨s9.a, s9.n, s9.c⟩ w8) ∧
 ∀ (n11 : Nat) (us12 : Nat → Value) (x13 : Int) (s14 : Sl) (w15 : World), I10 n11 x13 s14 w15 →
 Br (decide ((x13 : Int) < ((a0.n : Nat) : Int)))
 (InB a0.a x13 a0.n ∧ ∃ (s17 : Sl), ld w15 (padd a0.a ((x13 : Int).toNat * 1)) = some (.slice s17.a s17.n s17.c) ∧
 ∃ l18 : List Value, Rd w15 s17.a l18 ∧ AppPre 1 1 w15 ⟨s14.a, s14.n, s14.c⟩ s17.n l18 ∧ ∀ (s19 : Sl) (w20 : World), AppRes 5 1 w15 ⟨s14.a, s14.n, s14.c⟩ s17.n l18 s19 w20 →
 ∃ n16, n16 < n11 ∧ I10 n16 ((IntKind.wrap .i64 (x13 + 1))) ⟨s19.a, s19.n, s19.c⟩ w20)
 (R (.returned (.slice s14.a s14.n s14.c)) w15)))
theorem slices_Concat_byte.vc {a0 w} {R : Ending → World → Prop} (h : slices_Concat_byte.pre a0 w R) : Calls Tryz.prog n_slices_Concat_byte #[.slice a0.a a0.n a0.c] w R :=
 calls_of_eq (an := ⟨[(11, ⟨[(27, .int .i64), (6, .slice)], [], []⟩), (3, ⟨[(11, .int .i64), (3, .int .i64)], [], []⟩)], [], []⟩) (args := [.slice a0.a a0.n a0.c]) Tryz.noNG Tryz.mixed Tryz.func344 h (by kernel_rfl)
def slices_Grow_byte.pre (a0 : Sl) (a1 : Int) (w : World) (R : Ending → World → Prop) : Prop :=
 Br (decide ((a1 : Int) < 0))
 (False)
 (Br (decide (((IntKind.wrap .i64 (a1 - (IntKind.wrap .i64 (((a0.c : Nat) : Int) - ((a0.n : Nat) : Int))))) : Int) > 0))
 ((0 : Int) ≤ ((a0.c : Nat) : Int) ∧ ((a0.c : Nat) : Int) ≤ ((a0.c : Nat) : Int) ∧ ((0 : Int) ≤ (IntKind.wrap .i64 (a1 - (IntKind.wrap .i64 (((a0.c : Nat) : Int) - ((a0.n : Nat) : Int))))) ∧ IntKind.wrap .i64 (IntKind.wrap .i64 (a1 - (IntKind.wrap .i64 (((a0.c : Nat) : Int) - ((a0.n : Nat) : Int))))) = (IntKind.wrap .i64 (a1 - (IntKind.wrap .i64 (((a0.c : Nat) : Int) - ((a0.n : Nat) : Int))))) ∧ ((IntKind.wrap .i64 (a1 - (IntKind.wrap .i64 (((a0.c : Nat) : Int) - ((a0.n : Nat) : Int))))) : Int) * 1 ≤ 281474976710656) ∧ AppPre 1 1 w ⟨(slBase a0.a (0) (a0.c) 1), ((((a0.c : Nat) : Int) : Int).toNat - 0), (a0.c - 0)⟩ ((IntKind.wrap .i64 (a1 - (IntKind.wrap .i64 (((a0.c : Nat) : Int) - ((a0.n : Nat) : Int))))) : Int).toNat (zeroRows [.int .u8 0] ((IntKind.wrap .i64 (a1 - (IntKind.wrap .i64 (((a0.c : Nat) : Int) - ((a0.n : Nat) : Int))))) : Int).toNat) ∧ ∀ (s0 : Sl) (w1 : World), AppRes 5 1 w ⟨(slBase a0.a (0) (a0.c) 1), ((((a0.c : Nat) : Int) : Int).toNat - 0), (a0.c - 0)⟩ ((IntKind.wrap .i64 (a1 - (IntKind.wrap .i64 (((a0.c : Nat) : Int) - ((a0.n : Nat) : Int))))) : Int).toNat (zeroRows [.int .u8 0] ((IntKind.wrap .i64 (a1 - (IntKind.wrap .i64 (((a0.c : Nat) : Int) - ((a0.n : Nat) : Int))))) : Int).toNat) s0 w1 →
 (0 : Int) ≤ ((a0.n : Nat) : Int) ∧ ((a0.n : Nat) : Int) ≤ ((s0.c : Nat) : Int) ∧ R (.returned (.slice (slBase s0.a (0) (s0.c) 1) ((((a0.n : Nat) : Int) : Int).toNat - 0) (s0.c - 0))) w1)
 (R (.returned (.slice a0.a a0.n a0.c)) w))
theorem slices_Grow_byte.vc {a0 a1 w} {R : Ending → World → Prop} (h : slices_Grow_byte.pre a0 a1 w R) : Calls Tryz.prog n_slices_Grow_byte #[.slice a0.a a0.n a0.c, .int .i64 a1] w R :=
 calls_of_eq (an := ⟨[], [], []⟩) (args := [.slice a0.a a0.n a0.c, .int .i64 a1]) Tryz.noNG Tryz.mixed Tryz.func375 h (by kernel_rfl)
end Go.Proofs.YtjcnjlaelhdjeaaGreatDoor
namespace Go.Proofs.YtjcnjlaelhdjeaaGreatDoor
open Go Go.Vc Go.RowKit Go.Proofs
set_option maxRecDepth 100000
set_option maxHeartbeats 8000000
set_option linter.unusedVariables false
abbrev n_queue_New : FuncId := 174
abbrev n_queue_Queue_Add : FuncId := 219
abbrev n_queue_Queue_At : FuncId := 273
abbrev n_queue_Queue_Drop : FuncId := 274
abbrev n_queue_Queue_push : FuncId := 275
abbrev n_slices_DeleteFunc_Item : FuncId := 321
abbrev n_queue_Queue_Drop_1 : FuncId := 322
abbrev n_slices_BinarySearchFunc_Item : FuncId := 323
abbrev n_queue_Queue_push_1 : FuncId := 324
abbrev n_cmp_Or_int : FuncId := 325
abbrev n_cmp_Compare_int : FuncId := 326
abbrev n_slices_Insert_Item : FuncId := 327
abbrev n_slices_IndexFunc_Item : FuncId := 360
abbrev n_cmp_isNaN_int : FuncId := 361
abbrev n_slices_rotateRight_Item : FuncId := 363
def queue_New.pre (a0 : Int) (w : World) (R : Ending → World → Prop) : Prop :=
 ∀ w0 : World, w0 = w.alloc (.map #[] 0) →
 ∀ w1 : World, w1 = w0.alloc (.cells #[.int .i64 (if 4096 < (if 1 > a0 then 1 else a0) then 4096 else (if 1 > a0 then 1 else a0)), .int .i64 0, .slice none 0 0, .map (some w.heap.size)] 192) →
 R (.returned (.pointer (some ⟨w0.heap.size, 0, none⟩))) w1
theorem queue_New.vc {a0 w} {R : Ending → World → Prop} (h : queue_New.pre a0 w R) : Calls Tryz.prog n_queue_New #[.int .i64 a0] w R :=
 calls_of_eq (an := ⟨[], [], []⟩) (args := [.int .i64 a0]) Tryz.noNG Tryz.mixed Tryz.func174 h (by kernel_rfl)
def queue_Queue_Add.pre (a0 : Addr) (a1_0 : Int) (a1_1 : Int) (a1_2 : Int) (a2 : Int) (w : World) (R : Ending → World → Prop) : Prop :=
 ∀ w0 : World, w0 = w.alloc (.cells #[.int .i64 a1_0, .int .i64 a1_1, .int .i64 a1_2] 23) →
 Calls Tryz.prog n_queue_Queue_At #[.pointer (some a0), .agg #[.int .i64 a1_0, .int .i64 a1_1, .int .i64 a1_2]] w0 (fun e w1 => ∃ (x2 : Int) (b3 : Bool), e = .returned (.tuple #[.int .i64 x2, .bool b3]) ∧ w1.heap[w.heap.size]? = w0.heap[w.heap.size]? ∧
 Br b3
 (Br (decide ((x2 : Int) ≤ a2))
 (R (.returned (.bool false)) w1)
 (Br b3
 (Calls Tryz.prog n_queue_Queue_Drop #[.pointer (some a0), .agg #[.int .i64 a1_0, .int .i64 a1_1, .int .i64 a1_2]] w1 (fun e w4 => ∃ (b5 : Bool), e = .returned (.bool b5) ∧ w4.heap[w.heap.size]? = w1.heap[w.heap.size]? ∧
 Calls Tryz.prog n_queue_Queue_push #[.pointer (some a0), .agg #[.int .i64 a2, .int .i64 a1_0, .int .i64 a1_1, .int .i64 a1_2]] w4 (fun e w6 => e = .returned (.tuple #[]) ∧ w6.heap[w.heap.size]? = w4.heap[w.heap.size]? ∧
 R (.returned (.bool true)) w6)))
 (∃ (s7 : Sl), ld w1.drew (padd (some a0) 2) = some (.slice s7.a s7.n s7.c) ∧
 ∃ (x8 : Int), ld w1.drew (padd (some a0) 0) = some (.int .i64 x8) ∧
 Br ((((s7.n : Nat) : Int) : Int) == x8)
 (∃ (x9 : Int), ld w1.drew (padd (some a0) 1) = some (.int .i64 x9) ∧
 (true = true ∧ Wr w1.drew (padd (some a0) 1) 1) ∧ pblk (padd (some a0) 1) ≠ some w.heap.size ∧ (∀ w10 : World, w10 = setP w1.drew (padd (some a0) 1) [.int .i64 (IntKind.wrap .i64 (x9 + 1))] →
 R (.returned (.bool false)) w10))
 (Calls Tryz.prog n_queue_Queue_push #[.pointer (some a0), .agg #[.int .i64 a2, .int .i64 a1_0, .int .i64 a1_1, .int .i64 a1_2]] w1.drew (fun e w11 => e = .returned (.tuple #[]) ∧ w11.heap[w.heap.size]? = w1.drew.heap[w.heap.size]? ∧
 R (.returned (.bool true)) w11)))))
 (Br b3
 (Calls Tryz.prog n_queue_Queue_Drop #[.pointer (some a0), .agg #[.int .i64 a1_0, .int .i64 a1_1, .int .i64 a1_2]] w1 (fun e w12 => ∃ (b13 : Bool), e = .returned (.bool b13) ∧ w12.heap[w.heap.size]? = w1.heap[w.heap.size]? ∧
 Calls Tryz.prog n_queue_Queue_push #[.pointer (some a0), .agg #[.int .i64 a2, .int .i64 a1_0, .int .i64 a1_1, .int .i64 a1_2]] w12 (fun e w14 => e = .returned (.tuple #[]) ∧ w14.heap[w.heap.size]? = w12.heap[w.heap.size]? ∧
 R (.returned (.bool true)) w14)))
 (∃ (s15 : Sl), ld w1.drew (padd (some a0) 2) = some (.slice s15.a s15.n s15.c) ∧
 ∃ (x16 : Int), ld w1.drew (padd (some a0) 0) = some (.int .i64 x16) ∧
 Br ((((s15.n : Nat) : Int) : Int) == x16)
 (∃ (x17 : Int), ld w1.drew (padd (some a0) 1) = some (.int .i64 x17) ∧
 (true = true ∧ Wr w1.drew (padd (some a0) 1) 1) ∧ pblk (padd (some a0) 1) ≠ some w.heap.size ∧ (∀ w18 : World, w18 = setP w1.drew (padd (some a0) 1) [.int .i64 (IntKind.wrap .i64 (x17 + 1))] →
 R (.returned (.bool false)) w18))
 (Calls Tryz.prog n_queue_Queue_push #[.pointer (some a0), .agg #[.int .i64 a2, .int .i64 a1_0, .int .i64 a1_1, .int .i64 a1_2]] w1.drew (fun e w19 => e = .returned (.tuple #[]) ∧ w19.heap[w.heap.size]? = w1.drew.heap[w.heap.size]? ∧
 R (.returned (.bool true)) w19)))))
theorem queue_Queue_Add.vc {a0 a1_0 a1_1 a1_2 a2 w} {R : Ending → World → Prop} (h : queue_Queue_Add.pre a0 a1_0 a1_1 a1_2 a2 w R) : Calls Tryz.prog n_queue_Queue_Add #[.pointer (some a0), .agg #[.int .i64 a1_0, .int .i64 a1_1, .int .i64 a1_2], .int .i64 a2] w R :=
 calls_of_eq (an := ⟨[], [], []⟩) (args := [.pointer (some a0), .agg #[.int .i64 a1_0, .int .i64 a1_1, .int .i64 a1_2], .int .i64 a2]) Tryz.noNG Tryz.mixed Tryz.func219 h (by kernel_rfl)
def queue_Queue_At.pre (a0 : Addr) (a1_0 : Int) (a1_1 : Int) (a1_2 : Int) (w : World) (R : Ending → World → Prop) : Prop :=
 ∀ w0 : World, w0 = w.alloc (.cells #[.int .i64 a1_0, .int .i64 a1_1, .int .i64 a1_2] 23) →
 ∃ (m1 : Option Nat), ld w0.drew (padd (some a0) 3) = some (.map m1) ∧
 ∃ (G2 : Value → Prop) (kvs3 : List (Value × Value)), KeyOk Tryz.prog 23 G2 ∧ MapIs G2 w0.drew m1 kvs3 ∧ G2 (.agg #[.int .i64 a1_0, .int .i64 a1_1, .int .i64 a1_2]) ∧ ∃ (x4 : Int), ∃ b5 : Bool, Look kvs3 (.agg #[.int .i64 a1_0, .int .i64 a1_1, .int .i64 a1_2]) (.int .i64 0) (.int .i64 x4) b5 ∧
 R (.returned (.tuple #[.int .i64 x4, .bool b5])) w0.drew
theorem queue_Queue_At.vc {a0 a1_0 a1_1 a1_2 w} {R : Ending → World → Prop} (h : queue_Queue_At.pre a0 a1_0 a1_1 a1_2 w R) : Calls Tryz.prog n_queue_Queue_At #[.pointer (some a0), .agg #[.int .i64 a1_0, .int .i64 a1_1, .int .i64 a1_2]] w R :=
 calls_of_eq (an := ⟨[], [], []⟩) (args := [.pointer (some a0), .agg #[.int .i64 a1_0, .int .i64 a1_1, .int .i64 a1_2]]) Tryz.noNG Tryz.mixed Tryz.func273 h (by kernel_rfl)
def queue_Queue_Drop.pre (a0 : Addr) (a1_0 : Int) (a1_1 : Int) (a1_2 : Int) (w : World) (R : Ending → World → Prop) : Prop :=
 ∀ w0 : World, w0 = w.alloc (.cells #[.int .i64 a1_0, .int .i64 a1_1, .int .i64 a1_2] 23) →
 ∃ (m1 : Option Nat), ld w0.drew (padd (some a0) 3) = some (.map m1) ∧
 ∃ (G2 : Value → Prop) (kvs3 : List (Value × Value)), KeyOk Tryz.prog 23 G2 ∧ MapIs G2 w0.drew m1 kvs3 ∧ G2 (.agg #[.int .i64 a1_0, .int .i64 a1_1, .int .i64 a1_2]) ∧ ∃ (x4 : Int), ∃ b5 : Bool, Look kvs3 (.agg #[.int .i64 a1_0, .int .i64 a1_1, .int .i64 a1_2]) (.int .i64 0) (.int .i64 x4) b5 ∧
 Br (!b5)
 (R (.returned (.bool false)) w0.drew)
 (∃ (m6 : Option Nat), ld w0.drew.drew (padd (some a0) 3) = some (.map m6) ∧
 ∃ (G7 : Value → Prop) (kvs8 : List (Value × Value)), KeyOk Tryz.prog 23 G7 ∧ (m6 : Option Nat).isSome = true ∧ MapIs G7 w0.drew.drew m6 kvs8 ∧ G7 (.agg #[.int .i64 a1_0, .int .i64 a1_1, .int .i64 a1_2]) ∧ ∀ w9 : World, Rec ((m6 : Option Nat).getD 0) w0.drew.drew w9 → MapIs G7 w9 m6 (delL kvs8 (.agg #[.int .i64 a1_0, .int .i64 a1_1, .int .i64 a1_2])) →
 ∃ (s10 : Sl), ld w9 (padd (some a0) 2) = some (.slice s10.a s10.n s10.c) ∧
 Calls Tryz.prog n_slices_DeleteFunc_Item #[.slice s10.a s10.n s10.c, .func (.func 322) #[] #[.pointer (some ⟨w.heap.size, 0, none⟩)]] w9 (fun e w11 => ∃ (s12 : Sl), e = .returned (.slice s12.a s12.n s12.c) ∧
 (true = true ∧ Wr w11 (padd (some a0) 2) 1) ∧ (∀ w13 : World, w13 = setP w11 (padd (some a0) 2) [.slice s12.a s12.n s12.c] →
 R (.returned (.bool true)) w13)))
theorem queue_Queue_Drop.vc {a0 a1_0 a1_1 a1_2 w} {R : Ending → World → Prop} (h : queue_Queue_Drop.pre a0 a1_0 a1_1 a1_2 w R) : Calls Tryz.prog n_queue_Queue_Drop #[.pointer (some a0), .agg #[.int .i64 a1_0, .int .i64 a1_1, .int .i64 a1_2]] w R :=
 calls_of_eq (an := ⟨[], [], []⟩) (args := [.pointer (some a0), .agg #[.int .i64 a1_0, .int .i64 a1_1, .int .i64 a1_2]]) Tryz.noNG Tryz.mixed Tryz.func274 h (by kernel_rfl)
def queue_Queue_push.pre (a0 : Addr) (a1_0 : Int) (a1_1 : Int) (a1_2 : Int) (a1_3 : Int) (w : World) (R : Ending → World → Prop) : Prop :=
 ∀ w0 : World, w0 = w.alloc (.cells #[.int .i64 a1_0, .int .i64 a1_1, .int .i64 a1_2, .int .i64 a1_3] 106) →
 ∃ (s1 : Sl), ld w0.drew (padd (some a0) 2) = some (.slice s1.a s1.n s1.c) ∧
 Calls Tryz.prog n_slices_BinarySearchFunc_Item #[.slice s1.a s1.n s1.c, .agg #[.int .i64 a1_0, .int .i64 a1_1, .int .i64 a1_2, .int .i64 a1_3], .func (.func 324) #[] #[]] w0.drew (fun e w2 => ∃ (x3 : Int) (b4 : Bool), e = .returned (.tuple #[.int .i64 x3, .bool b4]) ∧ w2.heap[w.heap.size]? = w0.drew.heap[w.heap.size]? ∧
 ∃ (s5 : Sl), ld w2.drew (padd (some a0) 2) = some (.slice s5.a s5.n s5.c) ∧
 ∀ w6 : World, w6 = w2.drew.alloc (.cells #[.int .i64 a1_0, .int .i64 a1_1, .int .i64 a1_2, .int .i64 a1_3] 106) →
 Calls Tryz.prog n_slices_Insert_Item #[.slice s5.a s5.n s5.c, .int .i64 x3, .slice (some ⟨w2.drew.heap.size, 0, none⟩) 1 1] w6 (fun e w7 => ∃ (s8 : Sl), e = .returned (.slice s8.a s8.n s8.c) ∧ w7.heap[w.heap.size]? = w6.heap[w.heap.size]? ∧
 (true = true ∧ Wr w7 (padd (some a0) 2) 1) ∧ pblk (padd (some a0) 2) ≠ some w.heap.size ∧ (∀ w9 : World, w9 = setP w7 (padd (some a0) 2) [.slice s8.a s8.n s8.c] →
 ∃ (m10 : Option Nat), ld w9.drew (padd (some a0) 3) = some (.map m10) ∧
 ∃ (G11 : Value → Prop) (kvs12 : List (Value × Value)), KeyOk Tryz.prog 23 G11 ∧ (m10 : Option Nat).isSome = true ∧ MapIs G11 w9.drew m10 kvs12 ∧ G11 (.agg #[.int .i64 a1_1, .int .i64 a1_2, .int .i64 a1_3]) ∧ ∀ w13 : World, Rec ((m10 : Option Nat).getD 0) w9.drew w13 → MapIs G11 w13 m10 (insL kvs12 (.agg #[.int .i64 a1_1, .int .i64 a1_2, .int .i64 a1_3]) (.int .i64 a1_0)) →
 R (.returned (.tuple #[])) w13)))
theorem queue_Queue_push.vc {a0 a1_0 a1_1 a1_2 a1_3 w} {R : Ending → World → Prop} (h : queue_Queue_push.pre a0 a1_0 a1_1 a1_2 a1_3 w R) : Calls Tryz.prog n_queue_Queue_push #[.pointer (some a0), .agg #[.int .i64 a1_0, .int .i64 a1_1, .int .i64 a1_2, .int .i64 a1_3]] w R :=
 calls_of_eq (an := ⟨[], [], []⟩) (args := [.pointer (some a0), .agg #[.int .i64 a1_0, .int .i64 a1_1, .int .i64 a1_2, .int .i64 a1_3]]) Tryz.noNG Tryz.mixed Tryz.func275 h (by kernel_rfl)
def slices_DeleteFunc_Item.pre (a0 : Sl) (a1 : Value) (w : World) (R : Ending → World → Prop) : Prop :=
 Calls Tryz.prog n_slices_IndexFunc_Item #[.slice a0.a a0.n a0.c, a1] w (fun e w0 => ∃ (x1 : Int), e = .returned (.int .i64 x1) ∧
 Br ((x1 : Int) == (-1))
 (R (.returned (.slice a0.a a0.n a0.c)) w0)
 (∃ I2 : Nat → Int → Int → World → Prop,
 (∃ n3, I2 n3 ((IntKind.wrap .i64 (x1 + 1))) (x1) w0) ∧
 ∀ (n3 : Nat) (us4 : Nat → Value) (x5 : Int) (x6 : Int) (w7 : World), I2 n3 x5 x6 w7 →
 Br (decide ((x5 : Int) < ((a0.n : Nat) : Int)))
 (InB a0.a x5 a0.n ∧ ∃ (x9 : Int) (x10 : Int) (x11 : Int) (x12 : Int), LoadL w7 (padd a0.a ((x5 : Int).toNat * 4)) 0 [.int .i64 x9, .int .i64 x10, .int .i64 x11, .int .i64 x12] ∧
 ∀ w13 : World, w13 = w7.alloc (.cells #[.int .i64 0, .int .i64 0, .int .i64 0, .int .i64 0] 106) →
 ∀ w14 : World, w14 = w13.setRow w7.heap.size #[.int .i64 x9, .int .i64 x10, .int .i64 x11, .int .i64 x12] →
 callV Tryz.prog a1 [.agg #[.int .i64 x9, .int .i64 x10, .int .i64 x11, .int .i64 x12]] w14 (fun e w15 => ∃ (b16 : Bool), e = .returned (.bool b16) ∧ w15.heap[w7.heap.size]? = w14.heap[w7.heap.size]? ∧
 Br (!b16)
 (InB a0.a x6 a0.n ∧ (((padd a0.a ((x6 : Int).toNat * 4))).isSome = true ∧ Wr w15 (padd a0.a ((x6 : Int).toNat * 4)) 4) ∧ pblk (padd a0.a ((x6 : Int).toNat * 4)) ≠ some w7.heap.size ∧ (∀ w17 : World, w17 = setP w15 (padd a0.a ((x6 : Int).toNat * 4)) [.int .i64 x9, .int .i64 x10, .int .i64 x11, .int .i64 x12] →
 ∃ n8, n8 < n3 ∧ I2 n8 ((IntKind.wrap .i64 (x5 + 1))) ((IntKind.wrap .i64 (x6 + 1))) w17))
 (∃ n8, n8 < n3 ∧ I2 n8 ((IntKind.wrap .i64 (x5 + 1))) (x6) w15)))
 ((0 : Int) ≤ x6 ∧ x6 ≤ ((a0.n : Nat) : Int) ∧ Wr w7 (slBase a0.a ((x6 : Int).toNat) (a0.c) 4) ((a0.n - (x6 : Int).toNat) * 4) ∧ (∀ w18 : World, w18 = setP w7 (slBase a0.a ((x6 : Int).toNat) (a0.c) 4) (zeroRows [.int .i64 0, .int .i64 0, .int .i64 0, .int .i64 0] (a0.n - (x6 : Int).toNat)) →
 (0 : Int) ≤ x6 ∧ x6 ≤ ((a0.c : Nat) : Int) ∧ R (.returned (.slice (slBase a0.a (0) (a0.c) 4) ((x6 : Int).toNat - 0) (a0.c - 0))) w18))))
theorem slices_DeleteFunc_Item.vc {a0 a1 w} {R : Ending → World → Prop} (h : slices_DeleteFunc_Item.pre a0 a1 w R) : Calls Tryz.prog n_slices_DeleteFunc_Item #[.slice a0.a a0.n a0.c, a1] w R :=
 calls_of_eq (an := ⟨[(5, ⟨[(6, .int .i64), (5, .int .i64)], [], []⟩)], [], []⟩) (args := [.slice a0.a a0.n a0.c, a1]) Tryz.noNG Tryz.mixed Tryz.func321 h (by kernel_rfl)
def queue_Queue_Drop_1.pre (a0_0 : Int) (a0_1 : Int) (a0_2 : Int) (a0_3 : Int) (c0 : Addr) (w : World) (R : Ending → World → Prop) : Prop :=
 ∀ w0 : World, w0 = w.alloc (.cells #[.int .i64 a0_0, .int .i64 a0_1, .int .i64 a0_2, .int .i64 a0_3] 106) →
 ∃ (x1 : Int) (x2 : Int) (x3 : Int), LoadL w0 (some c0) 0 [.int .i64 x1, .int .i64 x2, .int .i64 x3] ∧
 R (.returned (.bool (((a0_1 : Int) == x1) && (((a0_2 : Int) == x2) && ((a0_3 : Int) == x3))))) w0
theorem queue_Queue_Drop_1.vc {a0_0 a0_1 a0_2 a0_3 c0 w} {R : Ending → World → Prop} (h : queue_Queue_Drop_1.pre a0_0 a0_1 a0_2 a0_3 c0 w R) : Calls Tryz.prog n_queue_Queue_Drop_1 #[.agg #[.int .i64 a0_0, .int .i64 a0_1, .int .i64 a0_2, .int .i64 a0_3], .pointer (some c0)] w R :=
 calls_of_eq (an := ⟨[], [], []⟩) (args := [.agg #[.int .i64 a0_0, .int .i64 a0_1, .int .i64 a0_2, .int .i64 a0_3], .pointer (some c0)]) Tryz.noNG Tryz.mixed Tryz.func322 h (by kernel_rfl)
def slices_BinarySearchFunc_Item.pre (a0 : Sl) (a1_0 : Int) (a1_1 : Int) (a1_2 : Int) (a1_3 : Int) (a2 : Value) (w : World) (R : Ending → World → Prop) : Prop :=
 ∀ w0 : World, w0 = w.alloc (.cells #[.int .i64 a1_0, .int .i64 a1_1, .int .i64 a1_2, .int .i64 a1_3] 106) →
 ∃ I1 : Nat → Int → Int → World → Prop,
 (∃ n2, ([.int .i64 a1_0, .int .i64 a1_1, .int .i64 a1_2, .int .i64 a1_3] : List Value) = [.int .i64 a1_0, .int .i64 a1_1, .int .i64 a1_2, .int .i64 a1_3] ∧ I1 n2 (0) (((a0.n : Nat) : Int)) w0) ∧
 ∀ (n2 : Nat) (us3 : Nat → Value) (x4 : Int) (x5 : Int) (w6 : World), I1 n2 x4 x5 w6 →
 Br (decide ((x4 : Int) < x5))
 (InB a0.a (IntKind.wrap .i64 (((IntKind.wrap .u64 (IntKind.wrap .i64 (x4 + x5))) : Int).fdiv (2 ^ (min (1 : Int).toNat 64)))) a0.n ∧ ∃ (x8 : Int) (x9 : Int) (x10 : Int) (x11 : Int), LoadL w6.drew (padd a0.a (((IntKind.wrap .i64 (((IntKind.wrap .u64 (IntKind.wrap .i64 (x4 + x5))) : Int).fdiv (2 ^ (min (1 : Int).toNat 64)))) : Int).toNat * 4)) 0 [.int .i64 x8, .int .i64 x9, .int .i64 x10, .int .i64 x11] ∧
 callV Tryz.prog a2 [.agg #[.int .i64 x8, .int .i64 x9, .int .i64 x10, .int .i64 x11], .agg #[.int .i64 a1_0, .int .i64 a1_1, .int .i64 a1_2, .int .i64 a1_3]] w6.drew (fun e w12 => ∃ (x13 : Int), e = .returned (.int .i64 x13) ∧ w12.heap[w.heap.size]? = w6.drew.heap[w.heap.size]? ∧
 Br (decide ((x13 : Int) < 0))
 (∃ n7, n7 < n2 ∧ ([.int .i64 a1_0, .int .i64 a1_1, .int .i64 a1_2, .int .i64 a1_3] : List Value) = [.int .i64 a1_0, .int .i64 a1_1, .int .i64 a1_2, .int .i64 a1_3] ∧ I1 n7 ((IntKind.wrap .i64 ((IntKind.wrap .i64 (((IntKind.wrap .u64 (IntKind.wrap .i64 (x4 + x5))) : Int).fdiv (2 ^ (min (1 : Int).toNat 64)))) + 1))) (x5) w12)
 (∃ n7, n7 < n2 ∧ ([.int .i64 a1_0, .int .i64 a1_1, .int .i64 a1_2, .int .i64 a1_3] : List Value) = [.int .i64 a1_0, .int .i64 a1_1, .int .i64 a1_2, .int .i64 a1_3] ∧ I1 n7 (x4) ((IntKind.wrap .i64 (((IntKind.wrap .u64 (IntKind.wrap .i64 (x4 + x5))) : Int).fdiv (2 ^ (min (1 : Int).toNat 64))))) w12)))
 (Br (decide ((x4 : Int) < ((a0.n : Nat) : Int)))
 (InB a0.a x4 a0.n ∧ ∃ (x14 : Int) (x15 : Int) (x16 : Int) (x17 : Int), LoadL w6.drew (padd a0.a ((x4 : Int).toNat * 4)) 0 [.int .i64 x14, .int .i64 x15, .int .i64 x16, .int .i64 x17] ∧
 callV Tryz.prog a2 [.agg #[.int .i64 x14, .int .i64 x15, .int .i64 x16, .int .i64 x17], .agg #[.int .i64 a1_0, .int .i64 a1_1, .int .i64 a1_2, .int .i64 a1_3]] w6.drew (fun e w18 => ∃ (x19 : Int), e = .returned (.int .i64 x19) ∧ w18.heap[w.heap.size]? = w6.drew.heap[w.heap.size]? ∧
 R (.returned (.tuple #[.int .i64 x4, .bool ((x19 : Int) == 0)])) w18))
 (R (.returned (.tuple #[.int .i64 x4, .bool false])) w6.drew))
theorem slices_BinarySearchFunc_Item.vc {a0 a1_0 a1_1 a1_2 a1_3 a2 w} {R : Ending → World → Prop} (h : slices_BinarySearchFunc_Item.pre a0 a1_0 a1_1 a1_2 a1_3 a2 w R) : Calls Tryz.prog n_slices_BinarySearchFunc_Item #[.slice a0.a a0.n a0.c, .agg #[.int .i64 a1_0, .int .i64 a1_1, .int .i64 a1_2, .int .i64 a1_3], a2] w R :=
 calls_of_eq (an := ⟨[(3, ⟨[(9, .int .i64), (10, .int .i64)], [], []⟩)], [], []⟩) (args := [.slice a0.a a0.n a0.c, .agg #[.int .i64 a1_0, .int .i64 a1_1, .int .i64 a1_2, .int .i64 a1_3], a2]) Tryz.noNG Tryz.mixed Tryz.func323 h (by kernel_rfl)
def queue_Queue_push_1.pre (a0_0 : Int) (a0_1 : Int) (a0_2 : Int) (a0_3 : Int) (a1_0 : Int) (a1_1 : Int) (a1_2 : Int) (a1_3 : Int) (w : World) (R : Ending → World → Prop) : Prop :=
 ∀ w0 : World, w0 = w.alloc (.cells #[.int .i64 a0_0, .int .i64 a0_1, .int .i64 a0_2, .int .i64 a0_3] 106) →
 ∀ w1 : World, w1 = w0.alloc (.cells #[.int .i64 a1_0, .int .i64 a1_1, .int .i64 a1_2, .int .i64 a1_3] 106) →
 Calls Tryz.prog n_cmp_Compare_int #[.int .i64 a0_0, .int .i64 a1_0] w1 (fun e w2 => ∃ (x3 : Int), e = .returned (.int .i64 x3) ∧ w2.heap[w.heap.size]? = w1.heap[w.heap.size]? ∧ w2.heap[w0.heap.size]? = w1.heap[w0.heap.size]? ∧
 ∀ w4 : World, w4 = w2.alloc (.cells #[.int .i64 x3, .int .i64 (-1)] 3) →
 Calls Tryz.prog n_cmp_Or_int #[.slice (some ⟨w2.heap.size, 0, none⟩) 2 2] w4 (fun e w5 => ∃ (x6 : Int), e = .returned (.int .i64 x6) ∧ w5.heap[w.heap.size]? = w4.heap[w.heap.size]? ∧ w5.heap[w0.heap.size]? = w4.heap[w0.heap.size]? ∧
 R (.returned (.int .i64 x6)) w5))
theorem queue_Queue_push_1.vc {a0_0 a0_1 a0_2 a0_3 a1_0 a1_1 a1_2 a1_3 w} {R : Ending → World → Prop} (h : queue_Queue_push_1.pre a0_0 a0_1 a0_2 a0_3 a1_0 a1_1 a1_2 a1_3 w R) : Calls Tryz.prog n_queue_Queue_push_1 #[.agg #[.int .i64 a0_0, .int .i64 a0_1, .int .i64 a0_2, .int .i64 a0_3], .agg #[.int .i64 a1_0, .int .i64 a1_1, .int .i64 a1_2, .int .i64 a1_3]] w R :=
 calls_of_eq (an := ⟨[], [], []⟩) (args := [.agg #[.int .i64 a0_0, .int .i64 a0_1, .int .i64 a0_2, .int .i64 a0_3], .agg #[.int .i64 a1_0, .int .i64 a1_1, .int .i64 a1_2, .int .i64 a1_3]]) Tryz.noNG Tryz.mixed Tryz.func324 h (by kernel_rfl)
def cmp_Or_int.pre (a0 : Sl) (w : World) (R : Ending → World → Prop) : Prop :=
 ∃ I0 : Nat → Int → World → Prop,
 (∃ n1, I0 n1 (0) w) ∧
 ∀ (n1 : Nat) (us2 : Nat → Value) (x3 : Int) (w4 : World), I0 n1 x3 w4 →
 Br (decide ((x3 : Int) < ((a0.n : Nat) : Int)))
 (InB a0.a x3 a0.n ∧ ∃ (x6 : Int), ld w4 (padd a0.a ((x3 : Int).toNat * 1)) = some (.int .i64 x6) ∧
 Br ((x6 : Int) != 0)
 (R (.returned (.int .i64 x6)) w4)
 (∃ n5, n5 < n1 ∧ I0 n5 ((IntKind.wrap .i64 (x3 + 1))) w4))
 (R (.returned (.int .i64 0)) w4)
theorem cmp_Or_int.vc {a0 w} {R : Ending → World → Prop} (h : cmp_Or_int.pre a0 w R) : Calls Tryz.prog n_cmp_Or_int #[.slice a0.a a0.n a0.c] w R :=
 calls_of_eq (an := ⟨[(3, ⟨[(8, .int .i64)], [], []⟩)], [], []⟩) (args := [.slice a0.a a0.n a0.c]) Tryz.noNG Tryz.mixed Tryz.func325 h (by kernel_rfl)
def cmp_Compare_int.pre (a0 : Int) (a1 : Int) (w : World) (R : Ending → World → Prop) : Prop :=
 Calls Tryz.prog n_cmp_isNaN_int #[.int .i64 a0] w (fun e w0 => ∃ (b1 : Bool), e = .returned (.bool b1) ∧
 Calls Tryz.prog n_cmp_isNaN_int #[.int .i64 a1] w0 (fun e w2 => ∃ (b3 : Bool), e = .returned (.bool b3) ∧
 Br b1
 (Br b3
 (R (.returned (.int .i64 0)) w2)
 (R (.returned (.int .i64 (-1))) w2))
 (Br b3
 (R (.returned (.int .i64 1)) w2)
 (Br (decide ((a0 : Int) < a1))
 (R (.returned (.int .i64 (-1))) w2)
 (Br (decide ((a0 : Int) > a1))
 (R (.returned (.int .i64 1)) w2)
 (R (.returned (.int .i64 0)) w2))))))
theorem cmp_Compare_int.vc {a0 a1 w} {R : Ending → World → Prop} (h : cmp_Compare_int.pre a0 a1 w R) : Calls Tryz.prog n_cmp_Compare_int #[.int .i64 a0, .int .i64 a1] w R :=
 calls_of_eq (an := ⟨[], [], []⟩) (args := [.int .i64 a0, .int .i64 a1]) Tryz.noNG Tryz.mixed Tryz.func326 h (by kernel_rfl)
def slices_Insert_Item.pre (a0 : Sl) (a1 : Int) (a2 : Sl) (w : World) (R : Ending → World → Prop) : Prop :=
 (0 : Int) ≤ a1 ∧ a1 ≤ ((a0.n : Nat) : Int) ∧ Br ((((a2.n : Nat) : Int) : Int) == 0)
 (R (.returned (.slice a0.a a0.n a0.c)) w)
 (Br ((a1 : Int) == ((a0.n : Nat) : Int))
 (∃ l0 : List Value, Rd w a2.a l0 ∧ AppPre 32 4 w ⟨a0.a, a0.n, a0.c⟩ a2.n l0 ∧ ∀ (s1 : Sl) (w2 : World), AppRes 106 4 w ⟨a0.a, a0.n, a0.c⟩ a2.n l0 s1 w2 →
 R (.returned (.slice s1.a s1.n s1.c)) w2)
 (Br (decide (((IntKind.wrap .i64 (((a0.n : Nat) : Int) + ((a2.n : Nat) : Int))) : Int) > ((a0.c : Nat) : Int)))
 ((0 : Int) ≤ a1 ∧ a1 ≤ ((a0.c : Nat) : Int) ∧ ((0 : Int) ≤ (IntKind.wrap .i64 ((IntKind.wrap .i64 (((a0.n : Nat) : Int) + ((a2.n : Nat) : Int))) - a1)) ∧ IntKind.wrap .i64 (IntKind.wrap .i64 ((IntKind.wrap .i64 (((a0.n : Nat) : Int) + ((a2.n : Nat) : Int))) - a1)) = (IntKind.wrap .i64 ((IntKind.wrap .i64 (((a0.n : Nat) : Int) + ((a2.n : Nat) : Int))) - a1)) ∧ ((IntKind.wrap .i64 ((IntKind.wrap .i64 (((a0.n : Nat) : Int) + ((a2.n : Nat) : Int))) - a1)) : Int) * 32 ≤ 281474976710656) ∧ AppPre 32 4 w ⟨(slBase a0.a (0) (a0.c) 4), ((a1 : Int).toNat - 0), (a0.c - 0)⟩ ((IntKind.wrap .i64 ((IntKind.wrap .i64 (((a0.n : Nat) : Int) + ((a2.n : Nat) : Int))) - a1)) : Int).toNat (zeroRows [.int .i64 0, .int .i64 0, .int .i64 0, .int .i64 0] ((IntKind.wrap .i64 ((IntKind.wrap .i64 (((a0.n : Nat) : Int) + ((a2.n : Nat) : Int))) - a1)) : Int).toNat) ∧ ∀ (s3 : Sl) (w4 : World), AppRes 106 4 w ⟨(slBase a0.a (0) (a0.c) 4), ((a1 : Int).toNat - 0), (a0.c - 0)⟩ ((IntKind.wrap .i64 ((IntKind.wrap .i64 (((a0.n : Nat) : Int) + ((a2.n : Nat) : Int))) - a1)) : Int).toNat (zeroRows [.int .i64 0, .int .i64 0, .int .i64 0, .int .i64 0] ((IntKind.wrap .i64 ((IntKind.wrap .i64 (((a0.n : Nat) : Int) + ((a2.n : Nat) : Int))) - a1)) : Int).toNat) s3 w4 →
 (0 : Int) ≤ a1 ∧ a1 ≤ ((s3.n : Nat) : Int) ∧ ∃ l5 : List Value, (l5.length = min a2.n (s3.n - (a1 : Int).toNat) * 4 ∧ Rd w4 a2.a l5 ∧ One l5 ∧ Wr w4 (slBase s3.a ((a1 : Int).toNat) (s3.c) 4) l5.length) ∧ (∀ w6 : World, w6 = setP w4 (slBase s3.a ((a1 : Int).toNat) (s3.c) 4) l5 →
 (0 : Int) ≤ (IntKind.wrap .i64 (a1 + ((a2.n : Nat) : Int))) ∧ (IntKind.wrap .i64 (a1 + ((a2.n : Nat) : Int))) ≤ ((s3.n : Nat) : Int) ∧ (0 : Int) ≤ a1 ∧ a1 ≤ ((a0.n : Nat) : Int) ∧ ∃ l7 : List Value, (l7.length = min (a0.n - (a1 : Int).toNat) (s3.n - ((IntKind.wrap .i64 (a1 + ((a2.n : Nat) : Int))) : Int).toNat) * 4 ∧ Rd w6.drew (slBase a0.a ((a1 : Int).toNat) (a0.c) 4) l7 ∧ One l7 ∧ Wr w6.drew (slBase s3.a (((IntKind.wrap .i64 (a1 + ((a2.n : Nat) : Int))) : Int).toNat) (s3.c) 4) l7.length) ∧ (∀ w8 : World, w8 = setP w6.drew (slBase s3.a (((IntKind.wrap .i64 (a1 + ((a2.n : Nat) : Int))) : Int).toNat) (s3.c) 4) l7 →
 R (.returned (.slice s3.a s3.n s3.c)) w8)))
 ((0 : Int) ≤ (IntKind.wrap .i64 (((a0.n : Nat) : Int) + ((a2.n : Nat) : Int))) ∧ (IntKind.wrap .i64 (((a0.n : Nat) : Int) + ((a2.n : Nat) : Int))) ≤ ((a0.c : Nat) : Int) ∧ (0 : Int) ≤ (IntKind.wrap .i64 (a1 + ((a2.n : Nat) : Int))) ∧ (IntKind.wrap .i64 (a1 + ((a2.n : Nat) : Int))) ≤ (((((IntKind.wrap .i64 (((a0.n : Nat) : Int) + ((a2.n : Nat) : Int))) : Int).toNat - 0) : Nat) : Int) ∧ ExtC Tryz.prog 362 [.slice a2.a a2.n a2.c, .slice (slBase (slBase a0.a (0) (a0.c) 4) (((IntKind.wrap .i64 (a1 + ((a2.n : Nat) : Int))) : Int).toNat) ((a0.c - 0)) 4) ((((IntKind.wrap .i64 (((a0.n : Nat) : Int) + ((a2.n : Nat) : Int))) : Int).toNat - 0) - ((IntKind.wrap .i64 (a1 + ((a2.n : Nat) : Int))) : Int).toNat) ((a0.c - 0) - ((IntKind.wrap .i64 (a1 + ((a2.n : Nat) : Int))) : Int).toNat)] w (fun e w9 => ∃ (b10 : Bool), e = .returned (.bool b10) ∧
 Br (!b10)
 ((0 : Int) ≤ (IntKind.wrap .i64 (a1 + ((a2.n : Nat) : Int))) ∧ (IntKind.wrap .i64 (a1 + ((a2.n : Nat) : Int))) ≤ (((((IntKind.wrap .i64 (((a0.n : Nat) : Int) + ((a2.n : Nat) : Int))) : Int).toNat - 0) : Nat) : Int) ∧ (0 : Int) ≤ a1 ∧ a1 ≤ (((((IntKind.wrap .i64 (((a0.n : Nat) : Int) + ((a2.n : Nat) : Int))) : Int).toNat - 0) : Nat) : Int) ∧ ∃ l11 : List Value, (l11.length = min ((((IntKind.wrap .i64 (((a0.n : Nat) : Int) + ((a2.n : Nat) : Int))) : Int).toNat - 0) - (a1 : Int).toNat) ((((IntKind.wrap .i64 (((a0.n : Nat) : Int) + ((a2.n : Nat) : Int))) : Int).toNat - 0) - ((IntKind.wrap .i64 (a1 + ((a2.n : Nat) : Int))) : Int).toNat) * 4 ∧ Rd w9.drew (slBase (slBase a0.a (0) (a0.c) 4) ((a1 : Int).toNat) ((a0.c - 0)) 4) l11 ∧ One l11 ∧ Wr w9.drew (slBase (slBase a0.a (0) (a0.c) 4) (((IntKind.wrap .i64 (a1 + ((a2.n : Nat) : Int))) : Int).toNat) ((a0.c - 0)) 4) l11.length) ∧ (∀ w12 : World, w12 = setP w9.drew (slBase (slBase a0.a (0) (a0.c) 4) (((IntKind.wrap .i64 (a1 + ((a2.n : Nat) : Int))) : Int).toNat) ((a0.c - 0)) 4) l11 →
 (0 : Int) ≤ a1 ∧ a1 ≤ (((((IntKind.wrap .i64 (((a0.n : Nat) : Int) + ((a2.n : Nat) : Int))) : Int).toNat - 0) : Nat) : Int) ∧ ∃ l13 : List Value, (l13.length = min a2.n ((((IntKind.wrap .i64 (((a0.n : Nat) : Int) + ((a2.n : Nat) : Int))) : Int).toNat - 0) - (a1 : Int).toNat) * 4 ∧ Rd w12 a2.a l13 ∧ One l13 ∧ Wr w12 (slBase (slBase a0.a (0) (a0.c) 4) ((a1 : Int).toNat) ((a0.c - 0)) 4) l13.length) ∧ (∀ w14 : World, w14 = setP w12 (slBase (slBase a0.a (0) (a0.c) 4) ((a1 : Int).toNat) ((a0.c - 0)) 4) l13 →
 R (.returned (.slice (slBase a0.a (0) (a0.c) 4) (((IntKind.wrap .i64 (((a0.n : Nat) : Int) + ((a2.n : Nat) : Int))) : Int).toNat - 0) (a0.c - 0))) w14)))
 ((0 : Int) ≤ ((a0.n : Nat) : Int) ∧ ((a0.n : Nat) : Int) ≤ (((((IntKind.wrap .i64 (((a0.n : Nat) : Int) + ((a2.n : Nat) : Int))) : Int).toNat - 0) : Nat) : Int) ∧ ∃ l15 : List Value, (l15.length = min a2.n ((((IntKind.wrap .i64 (((a0.n : Nat) : Int) + ((a2.n : Nat) : Int))) : Int).toNat - 0) - (((a0.n : Nat) : Int) : Int).toNat) * 4 ∧ Rd w9 a2.a l15 ∧ One l15 ∧ Wr w9 (slBase (slBase a0.a (0) (a0.c) 4) ((((a0.n : Nat) : Int) : Int).toNat) ((a0.c - 0)) 4) l15.length) ∧ (∀ w16 : World, w16 = setP w9 (slBase (slBase a0.a (0) (a0.c) 4) ((((a0.n : Nat) : Int) : Int).toNat) ((a0.c - 0)) 4) l15 →
 (0 : Int) ≤ a1 ∧ a1 ≤ (((((IntKind.wrap .i64 (((a0.n : Nat) : Int) + ((a2.n : Nat) : Int))) : Int).toNat - 0) : Nat) : Int) ∧ Calls Tryz.prog n_slices_rotateRight_Item #[.slice (slBase (slBase a0.a (0) (a0.c) 4) ((a1 : Int).toNat) ((a0.c - 0)) 4) ((((IntKind.wrap .i64 (((a0.n : Nat) : Int) + ((a2.n : Nat) : Int))) : Int).toNat - 0) - (a1 : Int).toNat) ((a0.c - 0) - (a1 : Int).toNat), .int .i64 ((a2.n : Nat) : Int)] w16 (fun e w17 => e = .returned (.tuple #[]) ∧
 R (.returned (.slice (slBase a0.a (0) (a0.c) 4) (((IntKind.wrap .i64 (((a0.n : Nat) : Int) + ((a2.n : Nat) : Int))) : Int).toNat - 0) (a0.c - 0))) w17)))))))
theorem slices_Insert_Item.vc {a0 a1 a2 w} {R : Ending → World → Prop} (h : slices_Insert_Item.pre a0 a1 a2 w R) : Calls Tryz.prog n_slices_Insert_Item #[.slice a0.a a0.n a0.c, .int .i64 a1, .slice a2.a a2.n a2.c] w R :=
 calls_of_eq (an := ⟨[], [], []⟩) (args := [.slice a0.a a0.n a0.c, .int .i64 a1, .slice a2.a a2.n a2.c]) Tryz.noNG Tryz.mixed Tryz.func327 h (by kernel_rfl)
def slices_IndexFunc_Item.pre (a0 : Sl) (a1 : Value) (w : World) (R : Ending → World → Prop) : Prop :=
 ∃ I0 : Nat → Int → World → Prop,
 (∃ n1, I0 n1 (0) w) ∧
 ∀ (n1 : Nat) (us2 : Nat → Value) (x3 : Int) (w4 : World), I0 n1 x3 w4 →
 Br (decide ((x3 : Int) < ((a0.n : Nat) : Int)))
 (InB a0.a x3 a0.n ∧ ∃ (x6 : Int) (x7 : Int) (x8 : Int) (x9 : Int), LoadL w4 (padd a0.a ((x3 : Int).toNat * 4)) 0 [.int .i64 x6, .int .i64 x7, .int .i64 x8, .int .i64 x9] ∧
 callV Tryz.prog a1 [.agg #[.int .i64 x6, .int .i64 x7, .int .i64 x8, .int .i64 x9]] w4 (fun e w10 => ∃ (b11 : Bool), e = .returned (.bool b11) ∧
 Br b11
 (R (.returned (.int .i64 x3)) w10)
 (∃ n5, n5 < n1 ∧ I0 n5 ((IntKind.wrap .i64 (x3 + 1))) w10)))
 (R (.returned (.int .i64 (-1))) w4)
theorem slices_IndexFunc_Item.vc {a0 a1 w} {R : Ending → World → Prop} (h : slices_IndexFunc_Item.pre a0 a1 w R) : Calls Tryz.prog n_slices_IndexFunc_Item #[.slice a0.a a0.n a0.c, a1] w R :=
 calls_of_eq (an := ⟨[(2, ⟨[(8, .int .i64)], [], []⟩)], [], []⟩) (args := [.slice a0.a a0.n a0.c, a1]) Tryz.noNG Tryz.mixed Tryz.func360 h (by kernel_rfl)
def cmp_isNaN_int.pre (a0 : Int) (w : World) (R : Ending → World → Prop) : Prop :=
 R (.returned (.bool ((a0 : Int) != a0))) w
theorem cmp_isNaN_int.vc {a0 w} {R : Ending → World → Prop} (h : cmp_isNaN_int.pre a0 w R) : Calls Tryz.prog n_cmp_isNaN_int #[.int .i64 a0] w R :=
 calls_of_eq (an := ⟨[], [], []⟩) (args := [.int .i64 a0]) Tryz.noNG Tryz.mixed Tryz.func361 h (by kernel_rfl)
end Go.Proofs.YtjcnjlaelhdjeaaGreatDoor
namespace Go.Proofs.YtjcnjlaelhdjeaaGreatDoor
open Go Go.Vc Go.RowKit Go.Proofs
set_option maxRecDepth 100000
set_option maxHeartbeats 8000000
set_option linter.unusedVariables false
abbrev n_cell_Cut : FuncId := 280
abbrev n_cell_cut : FuncId := 281
abbrev n_cell_Near : FuncId := 221
abbrev n_cell_Near_1 : FuncId := 279
abbrev n_flow_Delay : FuncId := 309
abbrev n_flow_Wakes : FuncId := 308
abbrev n_sim_New : FuncId := 114
abbrev n_sim_New_1 : FuncId := 175
abbrev n_sim_Sim_World : FuncId := 39
abbrev n_sim_Sim_Edit : FuncId := 188
abbrev n_sim_Sim_wake : FuncId := 251
def cell_Cut.pre (a0_0 : Int) (a0_1 : Int) (a0_2 : Int) (w : World) (R : Ending → World → Prop) : Prop :=
 ∀ w0 : World, w0 = w.alloc (.cells #[.int .i64 a0_0, .int .i64 a0_1, .int .i64 a0_2] 23) →
 ∀ w1 : World, w1 = w0.alloc (.cells #[.int .i64 0, .int .i64 0, .int .i64 0] 23) →
 Calls Tryz.prog n_cell_cut #[.int .i64 a0_0] w1.drew (fun e w2 => ∃ (x3 : Int), e = .returned (.int .i64 x3) ∧ w2.heap[w.heap.size]? = w1.drew.heap[w.heap.size]? ∧ w2.heap[w0.heap.size]? = w1.drew.heap[w0.heap.size]? ∧
 LoadL w2 (some ⟨w.heap.size, 2, none⟩) 0 [.int .i64 a0_2] ∧ LoadL w2 (some ⟨w.heap.size, 1, none⟩) 0 [.int .i64 a0_1] ∧ Calls Tryz.prog n_cell_cut #[.int .i64 a0_1] w2 (fun e w4 => ∃ (x5 : Int), e = .returned (.int .i64 x5) ∧ w4.heap[w.heap.size]? = w2.heap[w.heap.size]? ∧ w4.heap[w0.heap.size]? = w2.heap[w0.heap.size]? ∧
 LoadL w4 (some ⟨w.heap.size, 2, none⟩) 0 [.int .i64 a0_2] ∧ Calls Tryz.prog n_cell_cut #[.int .i64 a0_2] w4 (fun e w6 => ∃ (x7 : Int), e = .returned (.int .i64 x7) ∧ w6.heap[w.heap.size]? = w4.heap[w.heap.size]? ∧ w6.heap[w0.heap.size]? = w4.heap[w0.heap.size]? ∧
 ∀ w8 : World, w8 = w6.setRow w0.heap.size #[.int .i64 x3, .int .i64 x5, .int .i64 x7] →
 R (.returned (.agg #[.int .i64 x3, .int .i64 x5, .int .i64 x7])) w8)))
theorem cell_Cut.vc {a0_0 a0_1 a0_2 w} {R : Ending → World → Prop} (h : cell_Cut.pre a0_0 a0_1 a0_2 w R) : Calls Tryz.prog n_cell_Cut #[.agg #[.int .i64 a0_0, .int .i64 a0_1, .int .i64 a0_2]] w R :=
 calls_of_eq (an := ⟨[], [], []⟩) (args := [.agg #[.int .i64 a0_0, .int .i64 a0_1, .int .i64 a0_2]]) Tryz.noNG Tryz.mixed Tryz.func280 h (by kernel_rfl)
def cell_cut.pre (a0 : Int) (w : World) (R : Ending → World → Prop) : Prop :=
 R (.returned (.int .i64 (if 2147483648 < (if (-2147483648) > a0 then (-2147483648) else a0) then 2147483648 else (if (-2147483648) > a0 then (-2147483648) else a0)))) w
theorem cell_cut.vc {a0 w} {R : Ending → World → Prop} (h : cell_cut.pre a0 w R) : Calls Tryz.prog n_cell_cut #[.int .i64 a0] w R :=
 calls_of_eq (an := ⟨[], [], []⟩) (args := [.int .i64 a0]) Tryz.noNG Tryz.mixed Tryz.func281 h (by kernel_rfl)
def cell_Near.pre (a0_0 : Int) (a0_1 : Int) (a0_2 : Int) (w : World) (R : Ending → World → Prop) : Prop :=
 ∀ w0 : World, w0 = w.alloc (.cells #[.int .i64 a0_0, .int .i64 a0_1, .int .i64 a0_2] 23) →
 ∀ w1 : World, w1 = w0.alloc (.cells #[.int .i64 0, .int .i64 0, .int .i64 0, .int .i64 0, .int .i64 0, .int .i64 0, .int .i64 0, .int .i64 0, .int .i64 0, .int .i64 0, .int .i64 0, .int .i64 0, .int .i64 0, .int .i64 0, .int .i64 0, .int .i64 0, .int .i64 0, .int .i64 0] 266) →
 Calls Tryz.prog n_cell_Near_1 #[.int .i64 (-1), .int .i64 0, .int .i64 0, .pointer (some ⟨w.heap.size, 0, none⟩)] w1 (fun e w2 => ∃ (x3 : Int) (x4 : Int) (x5 : Int), e = .returned (.agg #[.int .i64 x3, .int .i64 x4, .int .i64 x5]) ∧
 Calls Tryz.prog n_cell_Near_1 #[.int .i64 1, .int .i64 0, .int .i64 0, .pointer (some ⟨w.heap.size, 0, none⟩)] w2 (fun e w6 => ∃ (x7 : Int) (x8 : Int) (x9 : Int), e = .returned (.agg #[.int .i64 x7, .int .i64 x8, .int .i64 x9]) ∧
 Calls Tryz.prog n_cell_Near_1 #[.int .i64 0, .int .i64 (-1), .int .i64 0, .pointer (some ⟨w.heap.size, 0, none⟩)] w6 (fun e w10 => ∃ (x11 : Int) (x12 : Int) (x13 : Int), e = .returned (.agg #[.int .i64 x11, .int .i64 x12, .int .i64 x13]) ∧
 Calls Tryz.prog n_cell_Near_1 #[.int .i64 0, .int .i64 1, .int .i64 0, .pointer (some ⟨w.heap.size, 0, none⟩)] w10 (fun e w14 => ∃ (x15 : Int) (x16 : Int) (x17 : Int), e = .returned (.agg #[.int .i64 x15, .int .i64 x16, .int .i64 x17]) ∧
 Calls Tryz.prog n_cell_Near_1 #[.int .i64 0, .int .i64 0, .int .i64 (-1), .pointer (some ⟨w.heap.size, 0, none⟩)] w14 (fun e w18 => ∃ (x19 : Int) (x20 : Int) (x21 : Int), e = .returned (.agg #[.int .i64 x19, .int .i64 x20, .int .i64 x21]) ∧
 Calls Tryz.prog n_cell_Near_1 #[.int .i64 0, .int .i64 0, .int .i64 1, .pointer (some ⟨w.heap.size, 0, none⟩)] w18 (fun e w22 => ∃ (x23 : Int) (x24 : Int) (x25 : Int), e = .returned (.agg #[.int .i64 x23, .int .i64 x24, .int .i64 x25]) ∧
 (true = true ∧ Wr w22 (some ⟨w0.heap.size, 0, none⟩) 18) ∧ (∀ w26 : World, w26 = setP w22 (some ⟨w0.heap.size, 0, none⟩) [.int .i64 x3, .int .i64 x4, .int .i64 x5, .int .i64 x7, .int .i64 x8, .int .i64 x9, .int .i64 x11, .int .i64 x12, .int .i64 x13, .int .i64 x15, .int .i64 x16, .int .i64 x17, .int .i64 x19, .int .i64 x20, .int .i64 x21, .int .i64 x23, .int .i64 x24, .int .i64 x25] →
 ∃ (x27 : Int) (x28 : Int) (x29 : Int) (x30 : Int) (x31 : Int) (x32 : Int) (x33 : Int) (x34 : Int) (x35 : Int) (x36 : Int) (x37 : Int) (x38 : Int) (x39 : Int) (x40 : Int) (x41 : Int) (x42 : Int) (x43 : Int) (x44 : Int), LoadL w26 (some ⟨w0.heap.size, 0, none⟩) 0 [.int .i64 x27, .int .i64 x28, .int .i64 x29, .int .i64 x30, .int .i64 x31, .int .i64 x32, .int .i64 x33, .int .i64 x34, .int .i64 x35, .int .i64 x36, .int .i64 x37, .int .i64 x38, .int .i64 x39, .int .i64 x40, .int .i64 x41, .int .i64 x42, .int .i64 x43, .int .i64 x44] ∧
 R (.returned (.agg #[.int .i64 x27, .int .i64 x28, .int .i64 x29, .int .i64 x30, .int .i64 x31, .int .i64 x32, .int .i64 x33, .int .i64 x34, .int .i64 x35, .int .i64 x36, .int .i64 x37, .int .i64 x38, .int .i64 x39, .int .i64 x40, .int .i64 x41, .int .i64 x42, .int .i64 x43, .int .i64 x44])) w26)))))))
theorem cell_Near.vc {a0_0 a0_1 a0_2 w} {R : Ending → World → Prop} (h : cell_Near.pre a0_0 a0_1 a0_2 w R) : Calls Tryz.prog n_cell_Near #[.agg #[.int .i64 a0_0, .int .i64 a0_1, .int .i64 a0_2]] w R :=
 calls_of_eq (an := ⟨[], [], []⟩) (args := [.agg #[.int .i64 a0_0, .int .i64 a0_1, .int .i64 a0_2]]) Tryz.noNG Tryz.mixed Tryz.func221 h (by kernel_rfl)
def cell_Near_1.pre (a0 : Int) (a1 : Int) (a2 : Int) (c0 : Addr) (w : World) (R : Ending → World → Prop) : Prop :=
 ∀ w0 : World, w0 = w.alloc (.cells #[.int .i64 0, .int .i64 0, .int .i64 0] 23) →
 ∃ (x1 : Int), ld w0.drew (padd (some c0) 0) = some (.int .i64 x1) ∧
 ∃ (x2 : Int), ld w0.drew (padd (some c0) 1) = some (.int .i64 x2) ∧
 ∃ (x3 : Int), ld w0.drew (padd (some c0) 2) = some (.int .i64 x3) ∧
 Calls Tryz.prog n_cell_cut #[.int .i64 x1] w0.drew (fun e w4 => ∃ (x5 : Int), e = .returned (.int .i64 x5) ∧ w4.heap[w.heap.size]? = w0.drew.heap[w.heap.size]? ∧
 LoadL w4 (padd (some c0) 2) 0 [.int .i64 x3] ∧ LoadL w4 (padd (some c0) 1) 0 [.int .i64 x2] ∧ Calls Tryz.prog n_cell_cut #[.int .i64 x2] w4 (fun e w6 => ∃ (x7 : Int), e = .returned (.int .i64 x7) ∧ w6.heap[w.heap.size]? = w4.heap[w.heap.size]? ∧
 LoadL w6 (padd (some c0) 2) 0 [.int .i64 x3] ∧ Calls Tryz.prog n_cell_cut #[.int .i64 x3] w6 (fun e w8 => ∃ (x9 : Int), e = .returned (.int .i64 x9) ∧ w8.heap[w.heap.size]? = w6.heap[w.heap.size]? ∧
 Calls Tryz.prog n_cell_Cut #[.agg #[.int .i64 (IntKind.wrap .i64 (x5 + a0)), .int .i64 (IntKind.wrap .i64 (x7 + a1)), .int .i64 (IntKind.wrap .i64 (x9 + a2))]] w8 (fun e w10 => ∃ (x11 : Int) (x12 : Int) (x13 : Int), e = .returned (.agg #[.int .i64 x11, .int .i64 x12, .int .i64 x13]) ∧ w10.heap[w.heap.size]? = w8.heap[w.heap.size]? ∧
 ∀ w14 : World, w14 = w10.setRow w.heap.size #[.int .i64 x11, .int .i64 x12, .int .i64 x13] →
 R (.returned (.agg #[.int .i64 x11, .int .i64 x12, .int .i64 x13])) w14))))
theorem cell_Near_1.vc {a0 a1 a2 c0 w} {R : Ending → World → Prop} (h : cell_Near_1.pre a0 a1 a2 c0 w R) : Calls Tryz.prog n_cell_Near_1 #[.int .i64 a0, .int .i64 a1, .int .i64 a2, .pointer (some c0)] w R :=
 calls_of_eq (an := ⟨[], [], []⟩) (args := [.int .i64 a0, .int .i64 a1, .int .i64 a2, .pointer (some c0)]) Tryz.noNG Tryz.mixed Tryz.func279 h (by kernel_rfl)
def flow_Delay.pre (a0 : Int) (w : World) (R : Ending → World → Prop) : Prop :=
 Calls Tryz.prog 222 #[.int .i64 a0] w (fun e w0 => ∃ (b1 : Bool), e = .returned (.bool b1) ∧
 Br b1
 (R (.returned (.int .i64 2)) w0)
 (Calls Tryz.prog 262 #[.int .i64 a0] w0 (fun e w2 => ∃ (b3 : Bool), e = .returned (.bool b3) ∧
 Br b3
 (R (.returned (.int .i64 5)) w2)
 (R (.returned (.int .i64 0)) w2))))
theorem flow_Delay.vc {a0 w} {R : Ending → World → Prop} (h : flow_Delay.pre a0 w R) : Calls Tryz.prog n_flow_Delay #[.int .i64 a0] w R :=
 calls_of_eq (an := ⟨[], [], []⟩) (args := [.int .i64 a0]) Tryz.noNG Tryz.mixed Tryz.func309 h (by kernel_rfl)
def flow_Wakes.pre (a0 : Value) (a1_0 : Int) (a1_1 : Int) (a1_2 : Int) (w : World) (R : Ending → World → Prop) : Prop :=
 ∀ w0 : World, w0 = w.alloc (.cells #[.int .i64 a1_0, .int .i64 a1_1, .int .i64 a1_2] 23) →
 Calls Tryz.prog n_cell_Near #[.agg #[.int .i64 a1_0, .int .i64 a1_1, .int .i64 a1_2]] w0 (fun e w1 => ∃ (x2 : Int) (x3 : Int) (x4 : Int) (x5 : Int) (x6 : Int) (x7 : Int) (x8 : Int) (x9 : Int) (x10 : Int) (x11 : Int) (x12 : Int) (x13 : Int) (x14 : Int) (x15 : Int) (x16 : Int) (x17 : Int) (x18 : Int) (x19 : Int), e = .returned (.agg #[.int .i64 x2, .int .i64 x3, .int .i64 x4, .int .i64 x5, .int .i64 x6, .int .i64 x7, .int .i64 x8, .int .i64 x9, .int .i64 x10, .int .i64 x11, .int .i64 x12, .int .i64 x13, .int .i64 x14, .int .i64 x15, .int .i64 x16, .int .i64 x17, .int .i64 x18, .int .i64 x19]) ∧ w1.heap[w.heap.size]? = w0.heap[w.heap.size]? ∧
 ∀ w20 : World, w20 = w1.alloc (.cells #[.int .i64 0, .int .i64 0, .int .i64 0, .int .i64 0, .int .i64 0, .int .i64 0, .int .i64 0, .int .i64 0, .int .i64 0, .int .i64 0, .int .i64 0, .int .i64 0, .int .i64 0, .int .i64 0, .int .i64 0, .int .i64 0, .int .i64 0, .int .i64 0] 266) →
 (true = true ∧ Wr w20 (some ⟨w1.heap.size, 0, none⟩) 18) ∧ pblk (some ⟨w1.heap.size, 0, none⟩) ≠ some w.heap.size ∧ (∀ w21 : World, w21 = setP w20 (some ⟨w1.heap.size, 0, none⟩) [.int .i64 x2, .int .i64 x3, .int .i64 x4, .int .i64 x5, .int .i64 x6, .int .i64 x7, .int .i64 x8, .int .i64 x9, .int .i64 x10, .int .i64 x11, .int .i64 x12, .int .i64 x13, .int .i64 x14, .int .i64 x15, .int .i64 x16, .int .i64 x17, .int .i64 x18, .int .i64 x19] →
 ∀ w22 : World, w22 = w21.drew.alloc (.cells #[.int .i64 a1_0, .int .i64 a1_1, .int .i64 a1_2] 23) →
 ∃ l23 : List Value, Rd w22 (slBase (some ⟨w1.heap.size, 0, none⟩) (0) (6) 3) l23 ∧ AppPre 24 3 w22 ⟨(some ⟨w21.drew.heap.size, 0, none⟩), 1, 1⟩ (6 - 0) l23 ∧ ∀ (s24 : Sl) (w25 : World), AppRes 23 3 w22 ⟨(some ⟨w21.drew.heap.size, 0, none⟩), 1, 1⟩ (6 - 0) l23 s24 w25 → w25.heap[w.heap.size]? = w22.heap[w.heap.size]? ∧ w25.heap[w21.drew.heap.size]? = w22.heap[w21.drew.heap.size]? ∧
 ∃ I26 : Nat → Int → Sl → World → Prop,
 (∃ n27, ([.int .i64 a1_0, .int .i64 a1_1, .int .i64 a1_2] : List Value) = [.int .i64 a1_0, .int .i64 a1_1, .int .i64 a1_2] ∧ ([.int .i64 a1_0, .int .i64 a1_1, .int .i64 a1_2] : List Value) = [.int .i64 a1_0, .int .i64 a1_1, .int .i64 a1_2] ∧ I26 n27 (0) ⟨none, 0, 0⟩ w25) ∧
 ∀ (n27 : Nat) (us28 : Nat → Value) (x29 : Int) (s30 : Sl) (w31 : World), I26 n27 x29 s30 w31 →
 Br (decide ((x29 : Int) < ((s24.n : Nat) : Int)))
 (InB s24.a x29 s24.n ∧ ∃ (x33 : Int) (x34 : Int) (x35 : Int), LoadL w31 (padd s24.a ((x29 : Int).toNat * 3)) 0 [.int .i64 x33, .int .i64 x34, .int .i64 x35] ∧
 ∀ w36 : World, w36 = w31.alloc (.cells #[.int .i64 0, .int .i64 0, .int .i64 0] 23) →
 ∀ w37 : World, w37 = w36.setRow w31.heap.size #[.int .i64 x33, .int .i64 x34, .int .i64 x35] →
 callV Tryz.prog a0 [.agg #[.int .i64 x33, .int .i64 x34, .int .i64 x35]] w37 (fun e w38 => ∃ (x39 : Int), e = .returned (.int .i64 x39) ∧ w38.heap[w.heap.size]? = w37.heap[w.heap.size]? ∧ w38.heap[w21.drew.heap.size]? = w37.heap[w21.drew.heap.size]? ∧ w38.heap[w31.heap.size]? = w37.heap[w31.heap.size]? ∧
 Calls Tryz.prog n_flow_Delay #[.int .i64 x39] w38 (fun e w40 => ∃ (x41 : Int), e = .returned (.int .i64 x41) ∧ w40.heap[w.heap.size]? = w38.heap[w.heap.size]? ∧ w40.heap[w21.drew.heap.size]? = w38.heap[w21.drew.heap.size]? ∧ w40.heap[w31.heap.size]? = w38.heap[w31.heap.size]? ∧
 Br (decide ((x41 : Int) > 0))
 (∀ w42 : World, w42 = w40.alloc (.cells #[.int .i64 x33, .int .i64 x34, .int .i64 x35] 23) →
 AppPre 24 3 w42 ⟨s30.a, s30.n, s30.c⟩ 1 [.int .i64 x33, .int .i64 x34, .int .i64 x35] ∧ ∀ (s43 : Sl) (w44 : World), AppRes 23 3 w42 ⟨s30.a, s30.n, s30.c⟩ 1 [.int .i64 x33, .int .i64 x34, .int .i64 x35] s43 w44 → w44.heap[w.heap.size]? = w42.heap[w.heap.size]? ∧ w44.heap[w21.drew.heap.size]? = w42.heap[w21.drew.heap.size]? ∧ w44.heap[w31.heap.size]? = w42.heap[w31.heap.size]? ∧ w44.heap[w40.heap.size]? = w42.heap[w40.heap.size]? ∧
 ∃ n32, n32 < n27 ∧ ([.int .i64 a1_0, .int .i64 a1_1, .int .i64 a1_2] : List Value) = [.int .i64 a1_0, .int .i64 a1_1, .int .i64 a1_2] ∧ ([.int .i64 a1_0, .int .i64 a1_1, .int .i64 a1_2] : List Value) = [.int .i64 a1_0, .int .i64 a1_1, .int .i64 a1_2] ∧ I26 n32 ((IntKind.wrap .i64 (x29 + 1))) ⟨s43.a, s43.n, s43.c⟩ w44)
 (∃ n32, n32 < n27 ∧ ([.int .i64 a1_0, .int .i64 a1_1, .int .i64 a1_2] : List Value) = [.int .i64 a1_0, .int .i64 a1_1, .int .i64 a1_2] ∧ ([.int .i64 a1_0, .int .i64 a1_1, .int .i64 a1_2] : List Value) = [.int .i64 a1_0, .int .i64 a1_1, .int .i64 a1_2] ∧ I26 n32 ((IntKind.wrap .i64 (x29 + 1))) ⟨s30.a, s30.n, s30.c⟩ w40))))
 (R (.returned (.slice s30.a s30.n s30.c)) w31)))
theorem flow_Wakes.vc {a0 a1_0 a1_1 a1_2 w} {R : Ending → World → Prop} (h : flow_Wakes.pre a0 a1_0 a1_1 a1_2 w R) : Calls Tryz.prog n_flow_Wakes #[a0, .agg #[.int .i64 a1_0, .int .i64 a1_1, .int .i64 a1_2]] w R :=
 calls_of_eq (an := ⟨[(4, ⟨[(16, .int .i64), (5, .slice)], [], []⟩)], [], []⟩) (args := [a0, .agg #[.int .i64 a1_0, .int .i64 a1_1, .int .i64 a1_2]]) Tryz.noNG Tryz.mixed Tryz.func308 h (by kernel_rfl)
def sim_New.pre (a0 : Addr) (a1 : Int) (w : World) (R : Ending → World → Prop) : Prop :=
 Calls Tryz.prog 174 #[.int .i64 4096] w (fun e w0 => ∃ (p1 : Option Addr), e = .returned (.pointer p1) ∧
 ∀ w2 : World, w2 = w0.alloc (.cells #[.pointer p1, .pointer (some a0), .int .i64 (if 64 < (if 1 > a1 then 1 else a1) then 64 else (if 1 > a1 then 1 else a1)), .int .i64 0, .func (.func 175) #[] #[], .slice none 0 0] 129) →
 R (.returned (.pointer (some ⟨w0.heap.size, 0, none⟩))) w2)
theorem sim_New.vc {a0 a1 w} {R : Ending → World → Prop} (h : sim_New.pre a0 a1 w R) : Calls Tryz.prog n_sim_New #[.pointer (some a0), .int .i64 a1] w R :=
 calls_of_eq (an := ⟨[], [], []⟩) (args := [.pointer (some a0), .int .i64 a1]) Tryz.noNG Tryz.mixed Tryz.func114 h (by kernel_rfl)
def sim_Sim_World.pre (a0 : Addr) (w : World) (R : Ending → World → Prop) : Prop :=
 ∃ (p0 : Option Addr), ld w (padd (some a0) 1) = some (.pointer p0) ∧
 R (.returned (.pointer p0)) w
theorem sim_Sim_World.vc {a0 w} {R : Ending → World → Prop} (h : sim_Sim_World.pre a0 w R) : Calls Tryz.prog n_sim_Sim_World #[.pointer (some a0)] w R :=
 calls_of_eq (an := ⟨[], [], []⟩) (args := [.pointer (some a0)]) Tryz.noNG Tryz.mixed Tryz.func39 h (by kernel_rfl)
def sim_Sim_Edit.pre (a0 : Addr) (a1_0 : Int) (a1_1 : Int) (a1_2 : Int) (a2 : Int) (w : World) (R : Ending → World → Prop) : Prop :=
 ∀ w0 : World, w0 = w.alloc (.cells #[.int .i64 a1_0, .int .i64 a1_1, .int .i64 a1_2] 23) →
 ∃ (p1 : Option Addr), ld w0.drew (padd (some a0) 1) = some (.pointer p1) ∧
 Calls Tryz.prog 250 #[.pointer p1, .agg #[.int .i64 a1_0, .int .i64 a1_1, .int .i64 a1_2], .int .i64 a2] w0.drew (fun e w2 => ∃ (x3 : Int), e = .returned (.int .i64 x3) ∧ w2.heap[w.heap.size]? = w0.drew.heap[w.heap.size]? ∧
 Br ((x3 : Int) == 0)
 (Calls Tryz.prog n_sim_Sim_wake #[.pointer (some a0), .agg #[.int .i64 a1_0, .int .i64 a1_1, .int .i64 a1_2]] w2 (fun e w4 => e = .returned (.tuple #[]) ∧ w4.heap[w.heap.size]? = w2.heap[w.heap.size]? ∧
 R (.returned (.int .i64 x3)) w4))
 (R (.returned (.int .i64 x3)) w2))
theorem sim_Sim_Edit.vc {a0 a1_0 a1_1 a1_2 a2 w} {R : Ending → World → Prop} (h : sim_Sim_Edit.pre a0 a1_0 a1_1 a1_2 a2 w R) : Calls Tryz.prog n_sim_Sim_Edit #[.pointer (some a0), .agg #[.int .i64 a1_0, .int .i64 a1_1, .int .i64 a1_2], .int .i64 a2] w R :=
 calls_of_eq (an := ⟨[], [], []⟩) (args := [.pointer (some a0), .agg #[.int .i64 a1_0, .int .i64 a1_1, .int .i64 a1_2], .int .i64 a2]) Tryz.noNG Tryz.mixed Tryz.func188 h (by kernel_rfl)
def sim_Sim_wake.pre (a0 : Addr) (a1_0 : Int) (a1_1 : Int) (a1_2 : Int) (w : World) (R : Ending → World → Prop) : Prop :=
 ∀ w0 : World, w0 = w.alloc (.cells #[.int .i64 a1_0, .int .i64 a1_1, .int .i64 a1_2] 23) →
 ∃ (p1 : Option Addr), ld w0 (padd (some a0) 1) = some (.pointer p1) ∧
 Calls Tryz.prog 58 #[.pointer p1] w0 (fun e w2 => ∃ (v3 : Value), e = .returned (v3) ∧ w2.heap[w.heap.size]? = w0.heap[w.heap.size]? ∧
 Calls Tryz.prog n_flow_Wakes #[v3, .agg #[.int .i64 a1_0, .int .i64 a1_1, .int .i64 a1_2]] w2 (fun e w4 => ∃ (s5 : Sl), e = .returned (.slice s5.a s5.n s5.c) ∧ w4.heap[w.heap.size]? = w2.heap[w.heap.size]? ∧
 ∃ I6 : Nat → Int → World → Prop,
 (∃ n7, ([.int .i64 a1_0, .int .i64 a1_1, .int .i64 a1_2] : List Value) = [.int .i64 a1_0, .int .i64 a1_1, .int .i64 a1_2] ∧ I6 n7 (0) w4) ∧
 ∀ (n7 : Nat) (us8 : Nat → Value) (x9 : Int) (w10 : World), I6 n7 x9 w10 →
 Br (decide ((x9 : Int) < ((s5.n : Nat) : Int)))
 (InB s5.a x9 s5.n ∧ ∃ (x12 : Int) (x13 : Int) (x14 : Int), LoadL w10 (padd s5.a ((x9 : Int).toNat * 3)) 0 [.int .i64 x12, .int .i64 x13, .int .i64 x14] ∧
 ∀ w15 : World, w15 = w10.alloc (.cells #[.int .i64 0, .int .i64 0, .int .i64 0] 23) →
 ∀ w16 : World, w16 = w15.setRow w10.heap.size #[.int .i64 x12, .int .i64 x13, .int .i64 x14] →
 ∃ (p17 : Option Addr), ld w16.drew (padd (some a0) 0) = some (.pointer p17) ∧
 ∃ (x18 : Int), ld w16.drew (padd (some a0) 3) = some (.int .i64 x18) ∧
 callV Tryz.prog v3 [.agg #[.int .i64 x12, .int .i64 x13, .int .i64 x14]] w16.drew (fun e w19 => ∃ (x20 : Int), e = .returned (.int .i64 x20) ∧ w19.heap[w.heap.size]? = w16.drew.heap[w.heap.size]? ∧ w19.heap[w10.heap.size]? = w16.drew.heap[w10.heap.size]? ∧
 LoadL w19 (padd (some a0) 3) 0 [.int .i64 x18] ∧ LoadL w19 (some ⟨w10.heap.size, 0, none⟩) 0 [.int .i64 x12, .int .i64 x13, .int .i64 x14] ∧ LoadL w19 (padd (some a0) 0) 0 [.pointer p17] ∧ Calls Tryz.prog n_flow_Delay #[.int .i64 x20] w19 (fun e w21 => ∃ (x22 : Int), e = .returned (.int .i64 x22) ∧ w21.heap[w.heap.size]? = w19.heap[w.heap.size]? ∧ w21.heap[w10.heap.size]? = w19.heap[w10.heap.size]? ∧
 LoadL w21 (padd (some a0) 3) 0 [.int .i64 x18] ∧ LoadL w21 (some ⟨w10.heap.size, 0, none⟩) 0 [.int .i64 x12, .int .i64 x13, .int .i64 x14] ∧ LoadL w21 (padd (some a0) 0) 0 [.pointer p17] ∧ Calls Tryz.prog 219 #[.pointer p17, .agg #[.int .i64 x12, .int .i64 x13, .int .i64 x14], .int .i64 (IntKind.wrap .i64 (x18 + x22))] w21 (fun e w23 => ∃ (b24 : Bool), e = .returned (.bool b24) ∧ w23.heap[w.heap.size]? = w21.heap[w.heap.size]? ∧ w23.heap[w10.heap.size]? = w21.heap[w10.heap.size]? ∧
 LoadL w23 (padd (some a0) 3) 0 [.int .i64 x18] ∧ ∃ n11, n11 < n7 ∧ ([.int .i64 a1_0, .int .i64 a1_1, .int .i64 a1_2] : List Value) = [.int .i64 a1_0, .int .i64 a1_1, .int .i64 a1_2] ∧ I6 n11 ((IntKind.wrap .i64 (x9 + 1))) w23))))
 (R (.returned (.tuple #[])) w10)))
theorem sim_Sim_wake.vc {a0 a1_0 a1_1 a1_2 w} {R : Ending → World → Prop} (h : sim_Sim_wake.pre a0 a1_0 a1_1 a1_2 w R) : Calls Tryz.prog n_sim_Sim_wake #[.pointer (some a0), .agg #[.int .i64 a1_0, .int .i64 a1_1, .int .i64 a1_2]] w R :=
 calls_of_eq (an := ⟨[(3, ⟨[(16, .int .i64)], [], []⟩)], [], []⟩) (args := [.pointer (some a0), .agg #[.int .i64 a1_0, .int .i64 a1_1, .int .i64 a1_2]]) Tryz.noNG Tryz.mixed Tryz.func251 h (by kernel_rfl)
end Go.Proofs.YtjcnjlaelhdjeaaGreatDoor
namespace Go.Proofs.YtjcnjlaelhdjeaaGreatDoor
open Go Go.Vc Go.RowKit Go.Proofs
set_option maxRecDepth 100000
set_option maxHeartbeats 8000000
set_option linter.unusedVariables false
abbrev n_engine_Engine_Live : FuncId := 41
abbrev n_engine_New : FuncId := 60
abbrev n_body_Body_Box : FuncId := 149
abbrev n_engine_Engine_at : FuncId := 76
abbrev n_vec_Stand : FuncId := 217
abbrev n_vec_Add : FuncId := 206
abbrev n_vec_Sub : FuncId := 207
abbrev n_fixed_Sub : FuncId := 270
abbrev n_fixed_Of : FuncId := 213
abbrev n_slices_IndexFunc_life : FuncId := 214
abbrev n_vec_Axis : FuncId := 210
abbrev n_vec_each : FuncId := 266
abbrev n_vec_Add_1 : FuncId := 267
abbrev n_fixed_Add : FuncId := 268
abbrev n_fixed_Cut : FuncId := 257
abbrev n_vec_Sub_1 : FuncId := 269
abbrev n_vec_parts : FuncId := 271
def engine_Engine_Live.pre (a0 : Addr) (w : World) (R : Ending → World → Prop) : Prop :=
 ∃ (p0 : Option Addr) (p1 : Option Addr) (p2 : Option Addr) (p3 : Option Addr) (p4 : Option Addr) (p5 : Option Addr) (p6 : Option Addr) (p7 : Option Addr) (p8 : Option Addr) (p9 : Option Addr) (p10 : Option Addr) (p11 : Option Addr) (p12 : Option Addr) (p13 : Option Addr) (p14 : Option Addr) (p15 : Option Addr), LoadL w (padd (some a0) 1) 0 [.pointer p0, .pointer p1, .pointer p2, .pointer p3, .pointer p4, .pointer p5, .pointer p6, .pointer p7, .pointer p8, .pointer p9, .pointer p10, .pointer p11, .pointer p12, .pointer p13, .pointer p14, .pointer p15] ∧
 ∃ I16 : Nat → Int → Sl → World → Prop,
 (∃ n17, I16 n17 (0) ⟨none, 0, 0⟩ w) ∧
 ∀ (n17 : Nat) (us18 : Nat → Value) (x19 : Int) (s20 : Sl) (w21 : World), I16 n17 x19 s20 w21 →
 Br (decide ((x19 : Int) < 16))
 (((0 : Int) ≤ x19 ∧ (x19 : Int) < ((16 : Nat) : Int)) ∧ ∃ (p23 : Option Addr), ([.pointer p0, .pointer p1, .pointer p2, .pointer p3, .pointer p4, .pointer p5, .pointer p6, .pointer p7, .pointer p8, .pointer p9, .pointer p10, .pointer p11, .pointer p12, .pointer p13, .pointer p14, .pointer p15] : List Value)[(x19 : Int).toNat * 1]? = some (.pointer p23) ∧
 Br (!(p23).isNone)
 (∀ w24 : World, w24 = w21.alloc (.cells #[.int .i64 x19] 3) →
 AppPre 8 1 w24 ⟨s20.a, s20.n, s20.c⟩ 1 [.int .i64 x19] ∧ ∀ (s25 : Sl) (w26 : World), AppRes 3 1 w24 ⟨s20.a, s20.n, s20.c⟩ 1 [.int .i64 x19] s25 w26 → w26.heap[w21.heap.size]? = w24.heap[w21.heap.size]? ∧
 ∃ n22, n22 < n17 ∧ I16 n22 ((IntKind.wrap .i64 (x19 + 1))) ⟨s25.a, s25.n, s25.c⟩ w26)
 (∃ n22, n22 < n17 ∧ I16 n22 ((IntKind.wrap .i64 (x19 + 1))) ⟨s20.a, s20.n, s20.c⟩ w21))
 (R (.returned (.slice s20.a s20.n s20.c)) w21)
theorem engine_Engine_Live.vc {a0 w} {R : Ending → World → Prop} (h : engine_Engine_Live.pre a0 w R) : Calls Tryz.prog n_engine_Engine_Live #[.pointer (some a0)] w R :=
 calls_of_eq (an := ⟨[(3, ⟨[(10, .int .i64), (3, .slice)], [], []⟩)], [], []⟩) (args := [.pointer (some a0)]) Tryz.noNG Tryz.mixed Tryz.func41 h (by kernel_rfl)
def engine_New.pre (a0_0 : Int) (a0_1 : Int) (a0_2 : Int) (a0_3 : Int) (w : World) (R : Ending → World → Prop) : Prop :=
 ∀ w0 : World, w0 = w.alloc (.cells #[.int .i64 a0_0, .int .i64 a0_1, .int .i64 a0_2, .int .i64 a0_3] 109) →
 Calls Tryz.prog 115 #[.int .i64 a0_0, .int .i64 a0_1, .int .i64 a0_2] w0.drew (fun e w1 => ∃ (p2 : Option Addr), e = .returned (.pointer p2) ∧ w1.heap[w.heap.size]? = w0.drew.heap[w.heap.size]? ∧
 LoadL w1 (some ⟨w.heap.size, 3, none⟩) 0 [.int .i64 a0_3] ∧ Calls Tryz.prog 114 #[.pointer p2, .int .i64 a0_3] w1 (fun e w3 => ∃ (p4 : Option Addr), e = .returned (.pointer p4) ∧ w3.heap[w.heap.size]? = w1.heap[w.heap.size]? ∧
 ∀ w5 : World, w5 = w3.alloc (.cells #[.pointer p4, .pointer none, .pointer none, .pointer none, .pointer none, .pointer none, .pointer none, .pointer none, .pointer none, .pointer none, .pointer none, .pointer none, .pointer none, .pointer none, .pointer none, .pointer none, .pointer none] 64) →
 R (.returned (.pointer (some ⟨w3.heap.size, 0, none⟩))) w5))
theorem engine_New.vc {a0_0 a0_1 a0_2 a0_3 w} {R : Ending → World → Prop} (h : engine_New.pre a0_0 a0_1 a0_2 a0_3 w R) : Calls Tryz.prog n_engine_New #[.agg #[.int .i64 a0_0, .int .i64 a0_1, .int .i64 a0_2, .int .i64 a0_3]] w R :=
 calls_of_eq (an := ⟨[], [], []⟩) (args := [.agg #[.int .i64 a0_0, .int .i64 a0_1, .int .i64 a0_2, .int .i64 a0_3]]) Tryz.noNG Tryz.mixed Tryz.func60 h (by kernel_rfl)
def body_Body_Box.pre (a0_0 : Int) (a0_1 : Int) (a0_2 : Int) (a0_3 : Int) (a0_4 : Int) (a0_5 : Int) (a0_6 : Int) (a0_7 : Int) (a0_8 : Bool) (w : World) (R : Ending → World → Prop) : Prop :=
 ∀ w0 : World, w0 = w.alloc (.cells #[.int .i64 a0_0, .int .i64 a0_1, .int .i64 a0_2, .int .i64 a0_3, .int .i64 a0_4, .int .i64 a0_5, .int .i64 a0_6, .int .i64 a0_7, .bool a0_8] 75) →
 ∀ w1 : World, w1 = w0.alloc (.cells #[.int .i64 0, .int .i64 0, .int .i64 0, .int .i64 0, .int .i64 0, .int .i64 0] 202) →
 Calls Tryz.prog n_vec_Stand #[.agg #[.int .i64 a0_0, .int .i64 a0_1, .int .i64 a0_2], .int .i64 a0_6, .int .i64 a0_7] w1 (fun e w2 => ∃ (x3 : Int) (x4 : Int) (x5 : Int) (x6 : Int) (x7 : Int) (x8 : Int), e = .returned (.agg #[.int .i64 x3, .int .i64 x4, .int .i64 x5, .int .i64 x6, .int .i64 x7, .int .i64 x8]) ∧ w2.heap[w.heap.size]? = w1.heap[w.heap.size]? ∧ w2.heap[w0.heap.size]? = w1.heap[w0.heap.size]? ∧
 ∀ w9 : World, w9 = w2.setRow w0.heap.size #[.int .i64 x3, .int .i64 x4, .int .i64 x5, .int .i64 x6, .int .i64 x7, .int .i64 x8] →
 R (.returned (.agg #[.int .i64 x3, .int .i64 x4, .int .i64 x5, .int .i64 x6, .int .i64 x7, .int .i64 x8])) w9)
theorem body_Body_Box.vc {a0_0 a0_1 a0_2 a0_3 a0_4 a0_5 a0_6 a0_7 a0_8 w} {R : Ending → World → Prop} (h : body_Body_Box.pre a0_0 a0_1 a0_2 a0_3 a0_4 a0_5 a0_6 a0_7 a0_8 w R) : Calls Tryz.prog n_body_Body_Box #[.agg #[.int .i64 a0_0, .int .i64 a0_1, .int .i64 a0_2, .int .i64 a0_3, .int .i64 a0_4, .int .i64 a0_5, .int .i64 a0_6, .int .i64 a0_7, .bool a0_8]] w R :=
 calls_of_eq (an := ⟨[], [], []⟩) (args := [.agg #[.int .i64 a0_0, .int .i64 a0_1, .int .i64 a0_2, .int .i64 a0_3, .int .i64 a0_4, .int .i64 a0_5, .int .i64 a0_6, .int .i64 a0_7, .bool a0_8]]) Tryz.noNG Tryz.mixed Tryz.func149 h (by kernel_rfl)
def engine_Engine_at.pre (a0 : Addr) (a1 : Int) (w : World) (R : Ending → World → Prop) : Prop :=
 Br (decide ((a1 : Int) < 0))
 (R (.returned (.pointer none)) w)
 (Br (decide ((a1 : Int) ≥ 16))
 (R (.returned (.pointer none)) w)
 ((0 : Int) ≤ a1 ∧ (a1 : Int) < ((16 : Nat) : Int) ∧ ∃ (p0 : Option Addr), ld w (padd (padd (some a0) 1) ((a1 : Int).toNat * 1)) = some (.pointer p0) ∧
 R (.returned (.pointer p0)) w))
theorem engine_Engine_at.vc {a0 a1 w} {R : Ending → World → Prop} (h : engine_Engine_at.pre a0 a1 w R) : Calls Tryz.prog n_engine_Engine_at #[.pointer (some a0), .int .i64 a1] w R :=
 calls_of_eq (an := ⟨[], [], []⟩) (args := [.pointer (some a0), .int .i64 a1]) Tryz.noNG Tryz.mixed Tryz.func76 h (by kernel_rfl)
def vec_Stand.pre (a0_0 : Int) (a0_1 : Int) (a0_2 : Int) (a1 : Int) (a2 : Int) (w : World) (R : Ending → World → Prop) : Prop :=
 ∀ w0 : World, w0 = w.alloc (.cells #[.int .i64 a0_0, .int .i64 a0_1, .int .i64 a0_2] 73) →
 ∀ w1 : World, w1 = w0.alloc (.cells #[.int .i64 0, .int .i64 0, .int .i64 0, .int .i64 0, .int .i64 0, .int .i64 0] 202) →
 ∀ w2 : World, w2 = w1.alloc (.cells #[.int .i64 0, .int .i64 0, .int .i64 0] 73) →
 ∀ w3 : World, w3 = w2.setRow w1.heap.size #[.int .i64 (IntKind.wrap .i64 (Int.tdiv (if 0 > a1 then 0 else a1) 2)), .int .i64 0, .int .i64 (IntKind.wrap .i64 (Int.tdiv (if 0 > a1 then 0 else a1) 2))] →
 (Calls Tryz.prog n_vec_Sub #[.agg #[.int .i64 a0_0, .int .i64 a0_1, .int .i64 a0_2], .agg #[.int .i64 (IntKind.wrap .i64 (Int.tdiv (if 0 > a1 then 0 else a1) 2)), .int .i64 0, .int .i64 (IntKind.wrap .i64 (Int.tdiv (if 0 > a1 then 0 else a1) 2))]] w3.drew (fun e w4 => ∃ (x5 : Int) (x6 : Int) (x7 : Int), e = .returned (.agg #[.int .i64 x5, .int .i64 x6, .int .i64 x7]) ∧ w4.heap[w.heap.size]? = w3.drew.heap[w.heap.size]? ∧ w4.heap[w0.heap.size]? = w3.drew.heap[w0.heap.size]? ∧ w4.heap[w1.heap.size]? = w3.drew.heap[w1.heap.size]? ∧
 LoadL w4 (some ⟨w.heap.size, 0, none⟩) 0 [.int .i64 a0_0, .int .i64 a0_1, .int .i64 a0_2] ∧ Calls Tryz.prog n_vec_Add #[.agg #[.int .i64 a0_0, .int .i64 a0_1, .int .i64 a0_2], .agg #[.int .i64 (IntKind.wrap .i64 (Int.tdiv (if 0 > a1 then 0 else a1) 2)), .int .i64 (if 0 > a2 then 0 else a2), .int .i64 (IntKind.wrap .i64 (Int.tdiv (if 0 > a1 then 0 else a1) 2))]] w4 (fun e w8 => ∃ (x9 : Int) (x10 : Int) (x11 : Int), e = .returned (.agg #[.int .i64 x9, .int .i64 x10, .int .i64 x11]) ∧ w8.heap[w.heap.size]? = w4.heap[w.heap.size]? ∧ w8.heap[w0.heap.size]? = w4.heap[w0.heap.size]? ∧ w8.heap[w1.heap.size]? = w4.heap[w1.heap.size]? ∧
 ∀ w12 : World, w12 = w8.setRow w0.heap.size #[.int .i64 x5, .int .i64 x6, .int .i64 x7, .int .i64 x9, .int .i64 x10, .int .i64 x11] →
 R (.returned (.agg #[.int .i64 x5, .int .i64 x6, .int .i64 x7, .int .i64 x9, .int .i64 x10, .int .i64 x11])) w12))) ∧ (Calls Tryz.prog n_vec_Sub #[.agg #[.int .i64 a0_0, .int .i64 a0_1, .int .i64 a0_2], .agg #[.int .i64 (IntKind.wrap .i64 (Int.tdiv (if 0 > a1 then 0 else a1) 2)), .int .i64 0, .int .i64 (IntKind.wrap .i64 (Int.tdiv (if 0 > a1 then 0 else a1) 2))]] w3.drew (fun e w13 => ∃ (x14 : Int) (x15 : Int) (x16 : Int), e = .returned (.agg #[.int .i64 x14, .int .i64 x15, .int .i64 x16]) ∧ w13.heap[w.heap.size]? = w3.drew.heap[w.heap.size]? ∧ w13.heap[w0.heap.size]? = w3.drew.heap[w0.heap.size]? ∧ w13.heap[w1.heap.size]? = w3.drew.heap[w1.heap.size]? ∧
 LoadL w13 (some ⟨w.heap.size, 0, none⟩) 0 [.int .i64 a0_0, .int .i64 a0_1, .int .i64 a0_2] ∧ Calls Tryz.prog n_vec_Add #[.agg #[.int .i64 a0_0, .int .i64 a0_1, .int .i64 a0_2], .agg #[.int .i64 (IntKind.wrap .i64 (Int.tdiv (if 0 > a1 then 0 else a1) 2)), .int .i64 (if 0 > a2 then 0 else a2), .int .i64 (IntKind.wrap .i64 (Int.tdiv (if 0 > a1 then 0 else a1) 2))]] w13 (fun e w17 => ∃ (x18 : Int) (x19 : Int) (x20 : Int), e = .returned (.agg #[.int .i64 x18, .int .i64 x19, .int .i64 x20]) ∧ w17.heap[w.heap.size]? = w13.heap[w.heap.size]? ∧ w17.heap[w0.heap.size]? = w13.heap[w0.heap.size]? ∧ w17.heap[w1.heap.size]? = w13.heap[w1.heap.size]? ∧
 ∀ w21 : World, w21 = w17.setRow w0.heap.size #[.int .i64 x14, .int .i64 x15, .int .i64 x16, .int .i64 x18, .int .i64 x19, .int .i64 x20] →
 R (.returned (.agg #[.int .i64 x14, .int .i64 x15, .int .i64 x16, .int .i64 x18, .int .i64 x19, .int .i64 x20])) w21)))
theorem vec_Stand.vc {a0_0 a0_1 a0_2 a1 a2 w} {R : Ending → World → Prop} (h : vec_Stand.pre a0_0 a0_1 a0_2 a1 a2 w R) : Calls Tryz.prog n_vec_Stand #[.agg #[.int .i64 a0_0, .int .i64 a0_1, .int .i64 a0_2], .int .i64 a1, .int .i64 a2] w R :=
 calls_of_eq (an := ⟨[], [], []⟩) (args := [.agg #[.int .i64 a0_0, .int .i64 a0_1, .int .i64 a0_2], .int .i64 a1, .int .i64 a2]) Tryz.noNG Tryz.mixed Tryz.func217 h (by kernel_rfl)
def vec_Add.pre (a0_0 : Int) (a0_1 : Int) (a0_2 : Int) (a1_0 : Int) (a1_1 : Int) (a1_2 : Int) (w : World) (R : Ending → World → Prop) : Prop :=
 ∀ w0 : World, w0 = w.alloc (.cells #[.int .i64 a0_0, .int .i64 a0_1, .int .i64 a0_2] 73) →
 ∀ w1 : World, w1 = w0.alloc (.cells #[.int .i64 a1_0, .int .i64 a1_1, .int .i64 a1_2] 73) →
 ∀ w2 : World, w2 = w1.alloc (.cells #[.int .i64 0, .int .i64 0, .int .i64 0] 73) →
 Calls Tryz.prog n_vec_each #[.agg #[.int .i64 a0_0, .int .i64 a0_1, .int .i64 a0_2], .func (.func 267) #[] #[.pointer (some ⟨w0.heap.size, 0, none⟩)]] w2 (fun e w3 => ∃ (x4 : Int) (x5 : Int) (x6 : Int), e = .returned (.agg #[.int .i64 x4, .int .i64 x5, .int .i64 x6]) ∧ w3.heap[w.heap.size]? = w2.heap[w.heap.size]? ∧ w3.heap[w1.heap.size]? = w2.heap[w1.heap.size]? ∧
 ∀ w7 : World, w7 = w3.setRow w1.heap.size #[.int .i64 x4, .int .i64 x5, .int .i64 x6] →
 R (.returned (.agg #[.int .i64 x4, .int .i64 x5, .int .i64 x6])) w7)
theorem vec_Add.vc {a0_0 a0_1 a0_2 a1_0 a1_1 a1_2 w} {R : Ending → World → Prop} (h : vec_Add.pre a0_0 a0_1 a0_2 a1_0 a1_1 a1_2 w R) : Calls Tryz.prog n_vec_Add #[.agg #[.int .i64 a0_0, .int .i64 a0_1, .int .i64 a0_2], .agg #[.int .i64 a1_0, .int .i64 a1_1, .int .i64 a1_2]] w R :=
 calls_of_eq (an := ⟨[], [], []⟩) (args := [.agg #[.int .i64 a0_0, .int .i64 a0_1, .int .i64 a0_2], .agg #[.int .i64 a1_0, .int .i64 a1_1, .int .i64 a1_2]]) Tryz.noNG Tryz.mixed Tryz.func206 h (by kernel_rfl)
def vec_Sub.pre (a0_0 : Int) (a0_1 : Int) (a0_2 : Int) (a1_0 : Int) (a1_1 : Int) (a1_2 : Int) (w : World) (R : Ending → World → Prop) : Prop :=
 ∀ w0 : World, w0 = w.alloc (.cells #[.int .i64 a0_0, .int .i64 a0_1, .int .i64 a0_2] 73) →
 ∀ w1 : World, w1 = w0.alloc (.cells #[.int .i64 a1_0, .int .i64 a1_1, .int .i64 a1_2] 73) →
 ∀ w2 : World, w2 = w1.alloc (.cells #[.int .i64 0, .int .i64 0, .int .i64 0] 73) →
 Calls Tryz.prog n_vec_each #[.agg #[.int .i64 a0_0, .int .i64 a0_1, .int .i64 a0_2], .func (.func 269) #[] #[.pointer (some ⟨w0.heap.size, 0, none⟩)]] w2 (fun e w3 => ∃ (x4 : Int) (x5 : Int) (x6 : Int), e = .returned (.agg #[.int .i64 x4, .int .i64 x5, .int .i64 x6]) ∧ w3.heap[w.heap.size]? = w2.heap[w.heap.size]? ∧ w3.heap[w1.heap.size]? = w2.heap[w1.heap.size]? ∧
 ∀ w7 : World, w7 = w3.setRow w1.heap.size #[.int .i64 x4, .int .i64 x5, .int .i64 x6] →
 R (.returned (.agg #[.int .i64 x4, .int .i64 x5, .int .i64 x6])) w7)
theorem vec_Sub.vc {a0_0 a0_1 a0_2 a1_0 a1_1 a1_2 w} {R : Ending → World → Prop} (h : vec_Sub.pre a0_0 a0_1 a0_2 a1_0 a1_1 a1_2 w R) : Calls Tryz.prog n_vec_Sub #[.agg #[.int .i64 a0_0, .int .i64 a0_1, .int .i64 a0_2], .agg #[.int .i64 a1_0, .int .i64 a1_1, .int .i64 a1_2]] w R :=
 calls_of_eq (an := ⟨[], [], []⟩) (args := [.agg #[.int .i64 a0_0, .int .i64 a0_1, .int .i64 a0_2], .agg #[.int .i64 a1_0, .int .i64 a1_1, .int .i64 a1_2]]) Tryz.noNG Tryz.mixed Tryz.func207 h (by kernel_rfl)
def fixed_Sub.pre (a0 : Int) (a1 : Int) (w : World) (R : Ending → World → Prop) : Prop :=
 Calls Tryz.prog n_fixed_Cut #[.int .i64 a0] w (fun e w0 => ∃ (x1 : Int), e = .returned (.int .i64 x1) ∧
 Calls Tryz.prog n_fixed_Cut #[.int .i64 a1] w0 (fun e w2 => ∃ (x3 : Int), e = .returned (.int .i64 x3) ∧
 Calls Tryz.prog n_fixed_Cut #[.int .i64 (IntKind.wrap .i64 (x1 - x3))] w2 (fun e w4 => ∃ (x5 : Int), e = .returned (.int .i64 x5) ∧
 R (.returned (.int .i64 x5)) w4)))
theorem fixed_Sub.vc {a0 a1 w} {R : Ending → World → Prop} (h : fixed_Sub.pre a0 a1 w R) : Calls Tryz.prog n_fixed_Sub #[.int .i64 a0, .int .i64 a1] w R :=
 calls_of_eq (an := ⟨[], [], []⟩) (args := [.int .i64 a0, .int .i64 a1]) Tryz.noNG Tryz.mixed Tryz.func270 h (by kernel_rfl)
def fixed_Of.pre (a0 : Int) (w : World) (R : Ending → World → Prop) : Prop :=
 R (.returned (.int .i64 (IntKind.wrap .i64 ((if 2147483648 < (if (-2147483648) > a0 then (-2147483648) else a0) then 2147483648 else (if (-2147483648) > a0 then (-2147483648) else a0)) * 2 ^ (min (16 : Int).toNat 64))))) w
theorem fixed_Of.vc {a0 w} {R : Ending → World → Prop} (h : fixed_Of.pre a0 w R) : Calls Tryz.prog n_fixed_Of #[.int .i64 a0] w R :=
 calls_of_eq (an := ⟨[], [], []⟩) (args := [.int .i64 a0]) Tryz.noNG Tryz.mixed Tryz.func213 h (by kernel_rfl)
def slices_IndexFunc_life.pre (a0 : Sl) (a1 : Value) (w : World) (R : Ending → World → Prop) : Prop :=
 ∃ I0 : Nat → Int → World → Prop,
 (∃ n1, I0 n1 (0) w) ∧
 ∀ (n1 : Nat) (us2 : Nat → Value) (x3 : Int) (w4 : World), I0 n1 x3 w4 →
 Br (decide ((x3 : Int) < ((a0.n : Nat) : Int)))
 (InB a0.a x3 a0.n ∧ ∃ (p6 : Option Addr), ld w4 (padd a0.a ((x3 : Int).toNat * 1)) = some (.pointer p6) ∧
 callV Tryz.prog a1 [.pointer p6] w4 (fun e w7 => ∃ (b8 : Bool), e = .returned (.bool b8) ∧
 Br b8
 (R (.returned (.int .i64 x3)) w7)
 (∃ n5, n5 < n1 ∧ I0 n5 ((IntKind.wrap .i64 (x3 + 1))) w7)))
 (R (.returned (.int .i64 (-1))) w4)
theorem slices_IndexFunc_life.vc {a0 a1 w} {R : Ending → World → Prop} (h : slices_IndexFunc_life.pre a0 a1 w R) : Calls Tryz.prog n_slices_IndexFunc_life #[.slice a0.a a0.n a0.c, a1] w R :=
 calls_of_eq (an := ⟨[(2, ⟨[(8, .int .i64)], [], []⟩)], [], []⟩) (args := [.slice a0.a a0.n a0.c, a1]) Tryz.noNG Tryz.mixed Tryz.func214 h (by kernel_rfl)
def vec_Axis.pre (a0_0 : Int) (a0_1 : Int) (a0_2 : Int) (a1 : Int) (w : World) (R : Ending → World → Prop) : Prop :=
 ∀ w0 : World, w0 = w.alloc (.cells #[.int .i64 a0_0, .int .i64 a0_1, .int .i64 a0_2] 73) →
 Br (decide ((a1 : Int) < 0))
 (R (.returned (.int .i64 0)) w0)
 (Br (decide ((a1 : Int) ≥ 3))
 (R (.returned (.int .i64 0)) w0)
 (Calls Tryz.prog n_vec_parts #[.pointer (some ⟨w.heap.size, 0, none⟩)] w0 (fun e w1 => ∃ (p2 : Option Addr) (p3 : Option Addr) (p4 : Option Addr), e = .returned (.agg #[.pointer p2, .pointer p3, .pointer p4]) ∧
 ((0 : Int) ≤ a1 ∧ (a1 : Int) < ((3 : Nat) : Int)) ∧ ∃ (p5 : Option Addr), ([.pointer p2, .pointer p3, .pointer p4] : List Value)[(a1 : Int).toNat * 1]? = some (.pointer p5) ∧
 AndL (nnC p5) (∃ (x6 : Int), ld w1 p5 = some (.int .i64 x6) ∧
 R (.returned (.int .i64 x6)) w1))))
theorem vec_Axis.vc {a0_0 a0_1 a0_2 a1 w} {R : Ending → World → Prop} (h : vec_Axis.pre a0_0 a0_1 a0_2 a1 w R) : Calls Tryz.prog n_vec_Axis #[.agg #[.int .i64 a0_0, .int .i64 a0_1, .int .i64 a0_2], .int .i64 a1] w R :=
 calls_of_eq (an := ⟨[], [], []⟩) (args := [.agg #[.int .i64 a0_0, .int .i64 a0_1, .int .i64 a0_2], .int .i64 a1]) Tryz.noNG Tryz.mixed Tryz.func210 h (by kernel_rfl)
def vec_each.pre (a0_0 : Int) (a0_1 : Int) (a0_2 : Int) (a1 : Value) (w : World) (R : Ending → World → Prop) : Prop :=
 ∀ w0 : World, w0 = w.alloc (.cells #[.int .i64 a0_0, .int .i64 a0_1, .int .i64 a0_2] 73) →
 ∀ w1 : World, w1 = w0.alloc (.cells #[.int .i64 0, .int .i64 0, .int .i64 0] 73) →
 Calls Tryz.prog n_vec_parts #[.pointer (some ⟨w.heap.size, 0, none⟩)] w1 (fun e w2 => ∃ (p3 : Option Addr) (p4 : Option Addr) (p5 : Option Addr), e = .returned (.agg #[.pointer p3, .pointer p4, .pointer p5]) ∧ w2.heap[w0.heap.size]? = w1.heap[w0.heap.size]? ∧
 ∃ I6 : Nat → Int → World → Prop,
 (∃ n7, ([.int .i64 0, .int .i64 0, .int .i64 0] : List Value) = [.int .i64 0, .int .i64 0, .int .i64 0] ∧ I6 n7 (0) w2) ∧
 ∀ (n7 : Nat) (us8 : Nat → Value) (x9 : Int) (w10 : World), I6 n7 x9 w10 →
 Br (decide ((x9 : Int) < 3))
 (((0 : Int) ≤ x9 ∧ (x9 : Int) < ((3 : Nat) : Int)) ∧ ∃ (p12 : Option Addr), ([.pointer p3, .pointer p4, .pointer p5] : List Value)[(x9 : Int).toNat * 1]? = some (.pointer p12) ∧
 AndL (nnC p12) (∃ (x13 : Int), ld w10 p12 = some (.int .i64 x13) ∧
 callV Tryz.prog a1 [.int .i64 x9, .int .i64 x13] w10 (fun e w14 => ∃ (x15 : Int), e = .returned (.int .i64 x15) ∧ w14.heap[w0.heap.size]? = w10.heap[w0.heap.size]? ∧
 AndL (nnC p12) (((p12).isSome = true ∧ Wr w14 p12 1) ∧ pblk p12 ≠ some w0.heap.size ∧ (∀ w16 : World, w16 = setP w14 p12 [.int .i64 x15] →
 ∃ n11, n11 < n7 ∧ ([.int .i64 0, .int .i64 0, .int .i64 0] : List Value) = [.int .i64 0, .int .i64 0, .int .i64 0] ∧ I6 n11 ((IntKind.wrap .i64 (x9 + 1))) w16)))))
 (∃ (x17 : Int) (x18 : Int) (x19 : Int), LoadL w10 (some ⟨w.heap.size, 0, none⟩) 0 [.int .i64 x17, .int .i64 x18, .int .i64 x19] ∧
 ∀ w20 : World, w20 = w10.setRow w0.heap.size #[.int .i64 x17, .int .i64 x18, .int .i64 x19] →
 R (.returned (.agg #[.int .i64 x17, .int .i64 x18, .int .i64 x19])) w20))
theorem vec_each.vc {a0_0 a0_1 a0_2 a1 w} {R : Ending → World → Prop} (h : vec_each.pre a0_0 a0_1 a0_2 a1 w R) : Calls Tryz.prog n_vec_each #[.agg #[.int .i64 a0_0, .int .i64 a0_1, .int .i64 a0_2], a1] w R :=
 calls_of_eq (an := ⟨[(2, ⟨[(8, .int .i64)], [], []⟩)], [], []⟩) (args := [.agg #[.int .i64 a0_0, .int .i64 a0_1, .int .i64 a0_2], a1]) Tryz.noNG Tryz.mixed Tryz.func266 h (by kernel_rfl)
def vec_Add_1.pre (a0 : Int) (a1 : Int) (c0 : Addr) (w : World) (R : Ending → World → Prop) : Prop :=
 ∃ (x0 : Int) (x1 : Int) (x2 : Int), LoadL w (some c0) 0 [.int .i64 x0, .int .i64 x1, .int .i64 x2] ∧
 Calls Tryz.prog n_vec_Axis #[.agg #[.int .i64 x0, .int .i64 x1, .int .i64 x2], .int .i64 a0] w (fun e w3 => ∃ (x4 : Int), e = .returned (.int .i64 x4) ∧
 Calls Tryz.prog n_fixed_Add #[.int .i64 a1, .int .i64 x4] w3 (fun e w5 => ∃ (x6 : Int), e = .returned (.int .i64 x6) ∧
 R (.returned (.int .i64 x6)) w5))
theorem vec_Add_1.vc {a0 a1 c0 w} {R : Ending → World → Prop} (h : vec_Add_1.pre a0 a1 c0 w R) : Calls Tryz.prog n_vec_Add_1 #[.int .i64 a0, .int .i64 a1, .pointer (some c0)] w R :=
 calls_of_eq (an := ⟨[], [], []⟩) (args := [.int .i64 a0, .int .i64 a1, .pointer (some c0)]) Tryz.noNG Tryz.mixed Tryz.func267 h (by kernel_rfl)
def fixed_Add.pre (a0 : Int) (a1 : Int) (w : World) (R : Ending → World → Prop) : Prop :=
 Calls Tryz.prog n_fixed_Cut #[.int .i64 a0] w (fun e w0 => ∃ (x1 : Int), e = .returned (.int .i64 x1) ∧
 Calls Tryz.prog n_fixed_Cut #[.int .i64 a1] w0 (fun e w2 => ∃ (x3 : Int), e = .returned (.int .i64 x3) ∧
 Calls Tryz.prog n_fixed_Cut #[.int .i64 (IntKind.wrap .i64 (x1 + x3))] w2 (fun e w4 => ∃ (x5 : Int), e = .returned (.int .i64 x5) ∧
 R (.returned (.int .i64 x5)) w4)))
theorem fixed_Add.vc {a0 a1 w} {R : Ending → World → Prop} (h : fixed_Add.pre a0 a1 w R) : Calls Tryz.prog n_fixed_Add #[.int .i64 a0, .int .i64 a1] w R :=
 calls_of_eq (an := ⟨[], [], []⟩) (args := [.int .i64 a0, .int .i64 a1]) Tryz.noNG Tryz.mixed Tryz.func268 h (by kernel_rfl)
def fixed_Cut.pre (a0 : Int) (w : World) (R : Ending → World → Prop) : Prop :=
 R (.returned (.int .i64 (if 140737488355328 < (if (-140737488355328) > a0 then (-140737488355328) else a0) then 140737488355328 else (if (-140737488355328) > a0 then (-140737488355328) else a0)))) w
theorem fixed_Cut.vc {a0 w} {R : Ending → World → Prop} (h : fixed_Cut.pre a0 w R) : Calls Tryz.prog n_fixed_Cut #[.int .i64 a0] w R :=
 calls_of_eq (an := ⟨[], [], []⟩) (args := [.int .i64 a0]) Tryz.noNG Tryz.mixed Tryz.func257 h (by kernel_rfl)
def vec_Sub_1.pre (a0 : Int) (a1 : Int) (c0 : Addr) (w : World) (R : Ending → World → Prop) : Prop :=
 ∃ (x0 : Int) (x1 : Int) (x2 : Int), LoadL w (some c0) 0 [.int .i64 x0, .int .i64 x1, .int .i64 x2] ∧
 Calls Tryz.prog n_vec_Axis #[.agg #[.int .i64 x0, .int .i64 x1, .int .i64 x2], .int .i64 a0] w (fun e w3 => ∃ (x4 : Int), e = .returned (.int .i64 x4) ∧
 Calls Tryz.prog n_fixed_Sub #[.int .i64 a1, .int .i64 x4] w3 (fun e w5 => ∃ (x6 : Int), e = .returned (.int .i64 x6) ∧
 R (.returned (.int .i64 x6)) w5))
theorem vec_Sub_1.vc {a0 a1 c0 w} {R : Ending → World → Prop} (h : vec_Sub_1.pre a0 a1 c0 w R) : Calls Tryz.prog n_vec_Sub_1 #[.int .i64 a0, .int .i64 a1, .pointer (some c0)] w R :=
 calls_of_eq (an := ⟨[], [], []⟩) (args := [.int .i64 a0, .int .i64 a1, .pointer (some c0)]) Tryz.noNG Tryz.mixed Tryz.func269 h (by kernel_rfl)
def vec_parts.pre (a0 : Addr) (w : World) (R : Ending → World → Prop) : Prop :=
 ∀ w0 : World, w0 = w.alloc (.cells #[.pointer none, .pointer none, .pointer none] 311) →
 (true = true ∧ Wr w0.drew (some ⟨w.heap.size, 0, none⟩) 3) ∧ (∀ w1 : World, w1 = setP w0.drew (some ⟨w.heap.size, 0, none⟩) [.pointer (padd (some a0) 0), .pointer (padd (some a0) 1), .pointer (padd (some a0) 2)] →
 ∃ (p2 : Option Addr) (p3 : Option Addr) (p4 : Option Addr), LoadL w1 (some ⟨w.heap.size, 0, none⟩) 0 [.pointer p2, .pointer p3, .pointer p4] ∧
 R (.returned (.agg #[.pointer p2, .pointer p3, .pointer p4])) w1)
theorem vec_parts.vc {a0 w} {R : Ending → World → Prop} (h : vec_parts.pre a0 w R) : Calls Tryz.prog n_vec_parts #[.pointer (some a0)] w R :=
 calls_of_eq (an := ⟨[], [], []⟩) (args := [.pointer (some a0)]) Tryz.noNG Tryz.mixed Tryz.func271 h (by kernel_rfl)
end Go.Proofs.YtjcnjlaelhdjeaaGreatDoor
