import Derived.Test.YtkkkfkopcfdmaaaGreatDoorG
set_option linter.all false
namespace Go.Proofs.YtkkkfkopcfdmaaaGreatDoor
open Go Go.Vc Go.RowKit Go.Proofs
set_option maxRecDepth 100000
set_option maxHeartbeats 8000000
set_option linter.unusedVariables false
abbrev n_disk_Disk_failed : FuncId := 227
abbrev n_disk_Disk_Put : FuncId := 164
abbrev n_disk_Disk_Sync : FuncId := 165
abbrev n_disk_bytes : FuncId := 229
abbrev n_store_put : FuncId := 224
abbrev n_store_take : FuncId := 247
abbrev n_store_Write : FuncId := 163
abbrev n_store_Store_Save : FuncId := 115
abbrev n_store_Store_ofb : FuncId := 133
abbrev n_crc_Put : FuncId := 225
abbrev n_crc_Good : FuncId := 281
abbrev n_crc_Of : FuncId := 269
abbrev n_crc_Check_Bytes : FuncId := 270
abbrev n_crc_Start : FuncId := 296
abbrev n_crc_Check_With : FuncId := 297
abbrev n_crc_steps : FuncId := 310
abbrev n_crc_steps_1 : FuncId := 321
abbrev n_slices_Concat_byte : FuncId := 226
abbrev n_slices_Grow_byte : FuncId := 271
def disk_Disk_failed.pre (a0 : Addr) (w : World) (R : Ending → World → Prop) : Prop :=
 ∃ (x0 : Int), ld w (padd (some a0) 2) = some (.int .i64 x0) ∧
 Br (decide ((x0 : Int) > 0))
 (∃ (x1 : Int), ld w (padd (some a0) 2) = some (.int .i64 x1) ∧
 (true = true ∧ Wr w (padd (some a0) 2) 1) ∧ (∀ w2 : World, w2 = setP w (padd (some a0) 2) [.int .i64 (IntKind.wrap .i64 (x1 - 1))] →
 R (.returned (.bool false)) w2))
 (∃ (x3 : Int), ld w (padd (some a0) 1) = some (.int .i64 x3) ∧
 Br (decide ((x3 : Int) > 0))
 (∃ (x4 : Int), ld w (padd (some a0) 1) = some (.int .i64 x4) ∧
 (true = true ∧ Wr w (padd (some a0) 1) 1) ∧ (∀ w5 : World, w5 = setP w (padd (some a0) 1) [.int .i64 (IntKind.wrap .i64 (x4 - 1))] →
 R (.returned (.bool (decide ((x3 : Int) > 0)))) w5))
 (R (.returned (.bool (decide ((x3 : Int) > 0)))) w))
theorem disk_Disk_failed.vc {a0 w} {R : Ending → World → Prop} (h : disk_Disk_failed.pre a0 w R) : Calls Tryz.prog n_disk_Disk_failed #[.pointer (some a0)] w R :=
 calls_of_eq (an := ⟨[], [], []⟩) (args := [.pointer (some a0)]) Tryz.noNG Tryz.mixed Tryz.func227 h (by kernel_rfl)
def disk_Disk_Put.pre (a0 : Addr) (a1 : Int) (a2 : Sl) (w : World) (R : Ending → World → Prop) : Prop :=
 Calls Tryz.prog n_disk_Disk_failed #[.pointer (some a0)] w (fun e w0 => ∃ (b1 : Bool), e = .returned (.bool b1) ∧
 Br b1
 (R (.returned (.int .i64 9)) w0)
 (Calls Tryz.prog 228 #[.pointer (some a0)] w0 (fun e w2 => ∃ (m3 : Option Nat), e = .returned (.map m3) ∧
 ∃ (x4 : Int), ld w2.drew (padd (some a0) 0) = some (.int .i64 x4) ∧
 (Calls Tryz.prog n_disk_bytes #[.map m3] w2.drew (fun e w5 => ∃ (x6 : Int), e = .returned (.int .i64 x6) ∧
 LoadL w5 (padd (some a0) 0) 0 [.int .i64 x4] ∧ ∃ (G7 : Value → Prop) (kvs8 : List (Value × Value)), KeyOk Tryz.prog 3 G7 ∧ MapIs G7 w5 m3 kvs8 ∧ G7 (.int .i64 a1) ∧ ∃ (s9 : Sl), ∃ b10 : Bool, Look kvs8 (.int .i64 a1) (.slice none 0 0) (.slice s9.a s9.n s9.c) b10 ∧
 LoadL w5 (padd (some a0) 0) 0 [.int .i64 x4] ∧ Br (decide (((IntKind.wrap .i64 (x6 - ((s9.n : Nat) : Int))) : Int) > (IntKind.wrap .i64 (x4 - ((a2.n : Nat) : Int)))))
 (R (.returned (.int .i64 8)) w5)
 (∃ (s11 : Sl), ld w5.drew (padd (some a0) 4) = some (.slice s11.a s11.n s11.c) ∧
 Calls Tryz.prog 230 #[.slice a2.a a2.n a2.c] w5.drew (fun e w12 => ∃ (s13 : Sl), e = .returned (.slice s13.a s13.n s13.c) ∧
 LoadL w12 (padd (some a0) 4) 0 [.slice s11.a s11.n s11.c] ∧ ∀ w14 : World, w14 = w12.alloc (.cells #[.int .i64 a1, .slice s13.a s13.n s13.c] 279) →
 AppPre 32 2 w14 ⟨s11.a, s11.n, s11.c⟩ 1 [.int .i64 a1, .slice s13.a s13.n s13.c] ∧ ∀ (s15 : Sl) (w16 : World), AppRes 279 2 w14 ⟨s11.a, s11.n, s11.c⟩ 1 [.int .i64 a1, .slice s13.a s13.n s13.c] s15 w16 → w16.heap[w12.heap.size]? = w14.heap[w12.heap.size]? ∧
 (true = true ∧ Wr w16 (padd (some a0) 4) 1) ∧ pblk (padd (some a0) 4) ≠ some w12.heap.size ∧ (∀ w17 : World, w17 = setP w16 (padd (some a0) 4) [.slice s15.a s15.n s15.c] →
 R (.returned (.int .i64 0)) w17))))) ∧ (∃ (G18 : Value → Prop) (kvs19 : List (Value × Value)), KeyOk Tryz.prog 3 G18 ∧ MapIs G18 w2.drew m3 kvs19 ∧ G18 (.int .i64 a1) ∧ ∃ (s20 : Sl), ∃ b21 : Bool, Look kvs19 (.int .i64 a1) (.slice none 0 0) (.slice s20.a s20.n s20.c) b21 ∧
 LoadL w2.drew (padd (some a0) 0) 0 [.int .i64 x4] ∧ Calls Tryz.prog n_disk_bytes #[.map m3] w2.drew (fun e w22 => ∃ (x23 : Int), e = .returned (.int .i64 x23) ∧
 LoadL w22 (padd (some a0) 0) 0 [.int .i64 x4] ∧ Br (decide (((IntKind.wrap .i64 (x23 - ((s20.n : Nat) : Int))) : Int) > (IntKind.wrap .i64 (x4 - ((a2.n : Nat) : Int)))))
 (R (.returned (.int .i64 8)) w22)
 (∃ (s24 : Sl), ld w22.drew (padd (some a0) 4) = some (.slice s24.a s24.n s24.c) ∧
 Calls Tryz.prog 230 #[.slice a2.a a2.n a2.c] w22.drew (fun e w25 => ∃ (s26 : Sl), e = .returned (.slice s26.a s26.n s26.c) ∧
 LoadL w25 (padd (some a0) 4) 0 [.slice s24.a s24.n s24.c] ∧ ∀ w27 : World, w27 = w25.alloc (.cells #[.int .i64 a1, .slice s26.a s26.n s26.c] 279) →
 AppPre 32 2 w27 ⟨s24.a, s24.n, s24.c⟩ 1 [.int .i64 a1, .slice s26.a s26.n s26.c] ∧ ∀ (s28 : Sl) (w29 : World), AppRes 279 2 w27 ⟨s24.a, s24.n, s24.c⟩ 1 [.int .i64 a1, .slice s26.a s26.n s26.c] s28 w29 → w29.heap[w25.heap.size]? = w27.heap[w25.heap.size]? ∧
 (true = true ∧ Wr w29 (padd (some a0) 4) 1) ∧ pblk (padd (some a0) 4) ≠ some w25.heap.size ∧ (∀ w30 : World, w30 = setP w29 (padd (some a0) 4) [.slice s28.a s28.n s28.c] →
 R (.returned (.int .i64 0)) w30))))))))
theorem disk_Disk_Put.vc {a0 a1 a2 w} {R : Ending → World → Prop} (h : disk_Disk_Put.pre a0 a1 a2 w R) : Calls Tryz.prog n_disk_Disk_Put #[.pointer (some a0), .int .i64 a1, .slice a2.a a2.n a2.c] w R :=
 calls_of_eq (an := ⟨[], [], []⟩) (args := [.pointer (some a0), .int .i64 a1, .slice a2.a a2.n a2.c]) Tryz.noNG Tryz.mixed Tryz.func164 h (by kernel_rfl)
def disk_Disk_Sync.pre (a0 : Addr) (w : World) (R : Ending → World → Prop) : Prop :=
 Calls Tryz.prog n_disk_Disk_failed #[.pointer (some a0)] w (fun e w0 => ∃ (b1 : Bool), e = .returned (.bool b1) ∧
 Br b1
 (R (.returned (.int .i64 9)) w0)
 (Calls Tryz.prog 228 #[.pointer (some a0)] w0 (fun e w2 => ∃ (m3 : Option Nat), e = .returned (.map m3) ∧
 (true = true ∧ Wr w2 (padd (some a0) 3) 1) ∧ (∀ w4 : World, w4 = setP w2 (padd (some a0) 3) [.map m3] →
 (true = true ∧ Wr w4 (padd (some a0) 4) 1) ∧ (∀ w5 : World, w5 = setP w4 (padd (some a0) 4) [.slice none 0 0] →
 R (.returned (.int .i64 0)) w5)))))
theorem disk_Disk_Sync.vc {a0 w} {R : Ending → World → Prop} (h : disk_Disk_Sync.pre a0 w R) : Calls Tryz.prog n_disk_Disk_Sync #[.pointer (some a0)] w R :=
 calls_of_eq (an := ⟨[], [], []⟩) (args := [.pointer (some a0)]) Tryz.noNG Tryz.mixed Tryz.func165 h (by kernel_rfl)
def store_put.pre (a0 : Sl) (a1 : Int) (a2 : Int) (w : World) (R : Ending → World → Prop) : Prop :=
 ∃ I0 : Nat → Int → Sl → World → Prop,
 (∃ n1, I0 n1 ((IntKind.wrap .i64 (a2 - 1))) ⟨a0.a, a0.n, a0.c⟩ w) ∧
 ∀ (n1 : Nat) (us2 : Nat → Value) (x3 : Int) (s4 : Sl) (w5 : World), I0 n1 x3 s4 w5 →
 Br (decide ((x3 : Int) ≥ 0))
 (AndL (ngC (IntKind.wrap .i64 (8 * x3))) (∀ w7 : World, w7 = w5.alloc (.cells #[.int .u8 (IntKind.wrap .u8 ((a1 : Int).fdiv (2 ^ (min ((IntKind.wrap .i64 (8 * x3)) : Int).toNat 64))))] 5) →
 AppPre 1 1 w7 ⟨s4.a, s4.n, s4.c⟩ 1 [.int .u8 (IntKind.wrap .u8 ((a1 : Int).fdiv (2 ^ (min ((IntKind.wrap .i64 (8 * x3)) : Int).toNat 64))))] ∧ ∀ (s8 : Sl) (w9 : World), AppRes 5 1 w7 ⟨s4.a, s4.n, s4.c⟩ 1 [.int .u8 (IntKind.wrap .u8 ((a1 : Int).fdiv (2 ^ (min ((IntKind.wrap .i64 (8 * x3)) : Int).toNat 64))))] s8 w9 → w9.heap[w5.heap.size]? = w7.heap[w5.heap.size]? ∧
 ∃ n6, n6 < n1 ∧ I0 n6 ((IntKind.wrap .i64 (x3 - 1))) ⟨s8.a, s8.n, s8.c⟩ w9))
 (R (.returned (.slice s4.a s4.n s4.c)) w5)
theorem store_put.vc {a0 a1 a2 w} {R : Ending → World → Prop} (h : store_put.pre a0 a1 a2 w R) : Calls Tryz.prog n_store_put #[.slice a0.a a0.n a0.c, .int .i64 a1, .int .i64 a2] w R :=
 calls_of_eq (an := ⟨[(2, ⟨[(7, .int .i64), (0, .slice)], [], []⟩)], [], []⟩) (args := [.slice a0.a a0.n a0.c, .int .i64 a1, .int .i64 a2]) Tryz.noNG Tryz.mixed Tryz.func224 h (by kernel_rfl)
def store_take.pre (a0 : Sl) (w : World) (R : Ending → World → Prop) : Prop :=
 ∃ I0 : Nat → Int → Int → World → Prop,
 (∃ n1, I0 n1 (0) (0) w) ∧
 ∀ (n1 : Nat) (us2 : Nat → Value) (x3 : Int) (x4 : Int) (w5 : World), I0 n1 x3 x4 w5 →
 Br (decide ((x3 : Int) < ((a0.n : Nat) : Int)))
 (InB a0.a x3 a0.n ∧ ∃ (x7 : Int), ld w5 (padd a0.a ((x3 : Int).toNat * 1)) = some (.int .u8 x7) ∧
 ∃ n6, n6 < n1 ∧ I0 n6 ((IntKind.wrap .i64 (x3 + 1))) ((bOr .i64 (IntKind.wrap .i64 (x4 * 2 ^ (min (8 : Int).toNat 64))) (IntKind.wrap .i64 x7))) w5)
 (R (.returned (.int .i64 x4)) w5)
theorem store_take.vc {a0 w} {R : Ending → World → Prop} (h : store_take.pre a0 w R) : Calls Tryz.prog n_store_take #[.slice a0.a a0.n a0.c] w R :=
 calls_of_eq (an := ⟨[(3, ⟨[(8, .int .i64), (3, .int .i64)], [], []⟩)], [], []⟩) (args := [.slice a0.a a0.n a0.c]) Tryz.noNG Tryz.mixed Tryz.func247 h (by kernel_rfl)
def store_Write.pre (a0 : Int) (a1 : Sl) (w : World) (R : Ending → World → Prop) : Prop :=
 Br (decide ((a0 : Int) < 1))
 (R (.returned (.tuple #[.slice none 0 0, .int .i64 1])) w)
 (Br (decide ((a0 : Int) > 1073741824))
 (R (.returned (.tuple #[.slice none 0 0, .int .i64 1])) w)
 (Br (decide ((((a1.n : Nat) : Int) : Int) > 65536))
 (R (.returned (.tuple #[.slice none 0 0, .int .i64 1])) w)
 (Calls Tryz.prog n_store_put #[.slice none 0 0, .int .i64 a0, .int .i64 4] w (fun e w0 => ∃ (s1 : Sl), e = .returned (.slice s1.a s1.n s1.c) ∧
 Calls Tryz.prog n_store_put #[.slice s1.a s1.n s1.c, .int .i64 ((a1.n : Nat) : Int), .int .i64 3] w0 (fun e w2 => ∃ (s3 : Sl), e = .returned (.slice s3.a s3.n s3.c) ∧
 ∀ w4 : World, w4 = w2.alloc (.cells #[.slice s3.a s3.n s3.c, .slice a1.a a1.n a1.c] 62) →
 Calls Tryz.prog n_slices_Concat_byte #[.slice (some ⟨w2.heap.size, 0, none⟩) 2 2] w4 (fun e w5 => ∃ (s6 : Sl), e = .returned (.slice s6.a s6.n s6.c) ∧
 Calls Tryz.prog n_crc_Put #[.slice s6.a s6.n s6.c] w5 (fun e w7 => ∃ (s8 : Sl), e = .returned (.slice s8.a s8.n s8.c) ∧
 R (.returned (.tuple #[.slice s8.a s8.n s8.c, .int .i64 0])) w7)))))))
theorem store_Write.vc {a0 a1 w} {R : Ending → World → Prop} (h : store_Write.pre a0 a1 w R) : Calls Tryz.prog n_store_Write #[.int .i64 a0, .slice a1.a a1.n a1.c] w R :=
 calls_of_eq (an := ⟨[], [], []⟩) (args := [.int .i64 a0, .slice a1.a a1.n a1.c]) Tryz.noNG Tryz.mixed Tryz.func163 h (by kernel_rfl)
def store_Store_Save.pre (a0 : Addr) (a1 : Int) (a2 : Sl) (w : World) (R : Ending → World → Prop) : Prop :=
 Calls Tryz.prog 132 #[.int .i64 a1] w (fun e w0 => ∃ (b1 : Bool), e = .returned (.bool b1) ∧
 Br (!b1)
 (R (.returned (.int .i64 1)) w0)
 (Calls Tryz.prog n_store_Store_ofb #[.pointer (some a0), .int .i64 a1] w0 (fun e w2 => ∃ (x3 : Int) (x4 : Int) (s5 : Sl), e = .returned (.agg #[.int .i64 x3, .int .i64 x4, .slice s5.a s5.n s5.c]) ∧
 ∀ w6 : World, w6 = w2.alloc (.cells #[.int .i64 0, .int .i64 0, .slice none 0 0] 202) →
 ∀ w7 : World, w7 = w6.setRow w2.heap.size #[.int .i64 x3, .int .i64 x4, .slice s5.a s5.n s5.c] →
 Calls Tryz.prog n_store_Write #[.int .i64 (IntKind.wrap .i64 (x4 + 1)), .slice a2.a a2.n a2.c] w7 (fun e w8 => ∃ (s9 : Sl) (x10 : Int), e = .returned (.tuple #[.slice s9.a s9.n s9.c, .int .i64 x10]) ∧ w8.heap[w2.heap.size]? = w7.heap[w2.heap.size]? ∧
 Br ((x10 : Int) != 0)
 (R (.returned (.int .i64 x10)) w8)
 (∃ (p11 : Option Addr), ld w8.drew (padd (padd (some a0) 0) 0) = some (.pointer p11) ∧
 Calls Tryz.prog n_disk_Disk_Put #[.pointer p11, .int .i64 (bXor .i64 x3 1), .slice s9.a s9.n s9.c] w8.drew (fun e w12 => ∃ (x13 : Int), e = .returned (.int .i64 x13) ∧ w12.heap[w2.heap.size]? = w8.drew.heap[w2.heap.size]? ∧
 LoadL w12 (some ⟨w2.heap.size, 0, none⟩) 0 [.int .i64 x3] ∧ Br ((x13 : Int) != 0)
 (R (.returned (.int .i64 x13)) w12)
 (∃ (p14 : Option Addr), ld w12 (padd (padd (some a0) 0) 0) = some (.pointer p14) ∧
 Calls Tryz.prog n_disk_Disk_Sync #[.pointer p14] w12 (fun e w15 => ∃ (x16 : Int), e = .returned (.int .i64 x16) ∧ w15.heap[w2.heap.size]? = w12.heap[w2.heap.size]? ∧
 R (.returned (.int .i64 x16)) w15))))))))
theorem store_Store_Save.vc {a0 a1 a2 w} {R : Ending → World → Prop} (h : store_Store_Save.pre a0 a1 a2 w R) : Calls Tryz.prog n_store_Store_Save #[.pointer (some a0), .int .i64 a1, .slice a2.a a2.n a2.c] w R :=
 calls_of_eq (an := ⟨[], [], []⟩) (args := [.pointer (some a0), .int .i64 a1, .slice a2.a a2.n a2.c]) Tryz.noNG Tryz.mixed Tryz.func115 h (by kernel_rfl)
def store_Store_ofb.pre (a0 : Addr) (a1 : Int) (w : World) (R : Ending → World → Prop) : Prop :=
 ∀ w0 : World, w0 = w.alloc (.cells #[.int .i64 0, .int .i64 0, .slice none 0 0] 202) →
 ∀ w1 : World, w1 = w0.alloc (.cells #[.int .i64 0, .int .i64 0, .slice none 0 0] 202) →
 ∀ w2 : World, w2 = w1.setRow w0.heap.size #[.int .i64 (IntKind.wrap .i64 ((IntKind.wrap .i64 (2 * a1)) + 1)), .int .i64 0, .slice none 0 0] →
 ∃ I3 : Nat → Int → Int → Int → Sl → World → Prop,
 (∃ n4, ([.int .i64 0, .int .i64 0, .slice none 0 0] : List Value) = [.int .i64 0, .int .i64 0, .slice none 0 0] ∧ I3 n4 (0) ((IntKind.wrap .i64 ((IntKind.wrap .i64 (2 * a1)) + 1))) (0) ⟨none, 0, 0⟩ w2) ∧
 ∀ (n4 : Nat) (us5 : Nat → Value) (x6 : Int) (x7 : Int) (x8 : Int) (s9 : Sl) (w10 : World), I3 n4 x6 x7 x8 s9 w10 →
 Br (decide ((x6 : Int) < 2))
 (((0 : Int) ≤ x6 ∧ (x6 : Int) < ((2 : Nat) : Int)) ∧ ∃ (x12 : Int), ([.int .i64 (IntKind.wrap .i64 (2 * a1)), .int .i64 (IntKind.wrap .i64 ((IntKind.wrap .i64 (2 * a1)) + 1))] : List Value)[(x6 : Int).toNat * 1]? = some (.int .i64 x12) ∧
 ∃ (p13 : Option Addr), ld w10 (padd (padd (some a0) 0) 0) = some (.pointer p13) ∧
 Calls Tryz.prog 182 #[.pointer p13, .int .i64 x12] w10 (fun e w14 => ∃ (s15 : Sl) (b16 : Bool), e = .returned (.tuple #[.slice s15.a s15.n s15.c, .bool b16]) ∧ w14.heap[w.heap.size]? = w10.heap[w.heap.size]? ∧ w14.heap[w0.heap.size]? = w10.heap[w0.heap.size]? ∧
 Calls Tryz.prog 183 #[.slice s15.a s15.n s15.c] w14 (fun e w17 => ∃ (x18 : Int) (s19 : Sl) (x20 : Int), e = .returned (.tuple #[.int .i64 x18, .slice s19.a s19.n s19.c, .int .i64 x20]) ∧ w17.heap[w.heap.size]? = w14.heap[w.heap.size]? ∧ w17.heap[w0.heap.size]? = w14.heap[w0.heap.size]? ∧
 Br ((x20 : Int) == 0)
 (Br (decide ((x18 : Int) > x8))
 (∀ w21 : World, w21 = w17.setRow w0.heap.size #[.int .i64 x12, .int .i64 x18, .slice s19.a s19.n s19.c] →
 ∃ n11, n11 < n4 ∧ ([.int .i64 0, .int .i64 0, .slice none 0 0] : List Value) = [.int .i64 0, .int .i64 0, .slice none 0 0] ∧ I3 n11 ((IntKind.wrap .i64 (x6 + 1))) (x12) (x18) ⟨s19.a, s19.n, s19.c⟩ w21)
 (∃ n11, n11 < n4 ∧ ([.int .i64 0, .int .i64 0, .slice none 0 0] : List Value) = [.int .i64 0, .int .i64 0, .slice none 0 0] ∧ I3 n11 ((IntKind.wrap .i64 (x6 + 1))) (x7) (x8) ⟨s9.a, s9.n, s9.c⟩ w17))
 (∃ n11, n11 < n4 ∧ ([.int .i64 0, .int .i64 0, .slice none 0 0] : List Value) = [.int .i64 0, .int .i64 0, .slice none 0 0] ∧ I3 n11 ((IntKind.wrap .i64 (x6 + 1))) (x7) (x8) ⟨s9.a, s9.n, s9.c⟩ w17))))
 (∀ w22 : World, w22 = w10.setRow w.heap.size #[.int .i64 x7, .int .i64 x8, .slice s9.a s9.n s9.c] →
 R (.returned (.agg #[.int .i64 x7, .int .i64 x8, .slice s9.a s9.n s9.c])) w22)
theorem store_Store_ofb.vc {a0 a1 w} {R : Ending → World → Prop} (h : store_Store_ofb.pre a0 a1 w R) : Calls Tryz.prog n_store_Store_ofb #[.pointer (some a0), .int .i64 a1] w R :=
 calls_of_eq (an := ⟨[(3, ⟨[(23, .int .i64)], [(1, [.int .i64, .int .i64, .slice])], []⟩)], [], []⟩) (args := [.pointer (some a0), .int .i64 a1]) Tryz.noNG Tryz.mixed Tryz.func133 h (by kernel_rfl)
def crc_Put.pre (a0 : Sl) (w : World) (R : Ending → World → Prop) : Prop :=
 Calls Tryz.prog n_crc_Of #[.slice a0.a a0.n a0.c] w (fun e w0 => ∃ (x1 : Int), e = .returned (.int .u16 x1) ∧
 Calls Tryz.prog n_crc_Check_Bytes #[.int .u16 x1] w0 (fun e w2 => ∃ (x3 : Int) (x4 : Int), e = .returned (.agg #[.int .u8 x3, .int .u8 x4]) ∧
 ∀ w5 : World, w5 = w2.alloc (.cells #[.int .u8 0, .int .u8 0] 321) →
 (true = true ∧ Wr w5 (some ⟨w2.heap.size, 0, none⟩) 2) ∧ (∀ w6 : World, w6 = setP w5 (some ⟨w2.heap.size, 0, none⟩) [.int .u8 x3, .int .u8 x4] →
 ∀ w7 : World, w7 = w6.alloc (.cells #[.slice a0.a a0.n a0.c, .slice (slBase (some ⟨w2.heap.size, 0, none⟩) (0) (2) 1) (2 - 0) (2 - 0)] 62) →
 Calls Tryz.prog n_slices_Concat_byte #[.slice (some ⟨w6.heap.size, 0, none⟩) 2 2] w7 (fun e w8 => ∃ (s9 : Sl), e = .returned (.slice s9.a s9.n s9.c) ∧
 R (.returned (.slice s9.a s9.n s9.c)) w8))))
theorem crc_Put.vc {a0 w} {R : Ending → World → Prop} (h : crc_Put.pre a0 w R) : Calls Tryz.prog n_crc_Put #[.slice a0.a a0.n a0.c] w R :=
 calls_of_eq (an := ⟨[], [], []⟩) (args := [.slice a0.a a0.n a0.c]) Tryz.noNG Tryz.mixed Tryz.func225 h (by kernel_rfl)
def crc_Good.pre (a0 : Sl) (w : World) (R : Ending → World → Prop) : Prop :=
 Br (decide ((((a0.n : Nat) : Int) : Int) ≥ 2))
 (Calls Tryz.prog n_crc_Of #[.slice a0.a a0.n a0.c] w (fun e w0 => ∃ (x1 : Int), e = .returned (.int .u16 x1) ∧
 R (.returned (.bool ((x1 : Int) == 0))) w0))
 (R (.returned (.bool false)) w)
theorem crc_Good.vc {a0 w} {R : Ending → World → Prop} (h : crc_Good.pre a0 w R) : Calls Tryz.prog n_crc_Good #[.slice a0.a a0.n a0.c] w R :=
 calls_of_eq (an := ⟨[], [], []⟩) (args := [.slice a0.a a0.n a0.c]) Tryz.noNG Tryz.mixed Tryz.func281 h (by kernel_rfl)
def crc_Of.pre (a0 : Sl) (w : World) (R : Ending → World → Prop) : Prop :=
 Calls Tryz.prog n_crc_Start #[] w (fun e w0 => ∃ (x1 : Int), e = .returned (.int .u16 x1) ∧
 Calls Tryz.prog n_crc_Check_With #[.int .u16 x1, .slice a0.a a0.n a0.c] w0 (fun e w2 => ∃ (x3 : Int), e = .returned (.int .u16 x3) ∧
 R (.returned (.int .u16 x3)) w2))
theorem crc_Of.vc {a0 w} {R : Ending → World → Prop} (h : crc_Of.pre a0 w R) : Calls Tryz.prog n_crc_Of #[.slice a0.a a0.n a0.c] w R :=
 calls_of_eq (an := ⟨[], [], []⟩) (args := [.slice a0.a a0.n a0.c]) Tryz.noNG Tryz.mixed Tryz.func269 h (by kernel_rfl)
def crc_Check_Bytes.pre (a0 : Int) (w : World) (R : Ending → World → Prop) : Prop :=
 ∀ w0 : World, w0 = w.alloc (.cells #[.int .u8 0, .int .u8 0] 321) →
 (true = true ∧ Wr w0 (some ⟨w.heap.size, 0, none⟩) 2) ∧ (∀ w1 : World, w1 = setP w0 (some ⟨w.heap.size, 0, none⟩) [.int .u8 (IntKind.wrap .u8 ((a0 : Int).fdiv (2 ^ (min (8 : Int).toNat 16)))), .int .u8 (IntKind.wrap .u8 a0)] →
 ∃ (x2 : Int) (x3 : Int), LoadL w1 (some ⟨w.heap.size, 0, none⟩) 0 [.int .u8 x2, .int .u8 x3] ∧
 R (.returned (.agg #[.int .u8 x2, .int .u8 x3])) w1)
theorem crc_Check_Bytes.vc {a0 w} {R : Ending → World → Prop} (h : crc_Check_Bytes.pre a0 w R) : Calls Tryz.prog n_crc_Check_Bytes #[.int .u16 a0] w R :=
 calls_of_eq (an := ⟨[], [], []⟩) (args := [.int .u16 a0]) Tryz.noNG Tryz.mixed Tryz.func270 h (by kernel_rfl)
def crc_Start.pre  (w : World) (R : Ending → World → Prop) : Prop :=
 R (.returned (.int .u16 65535)) w
theorem crc_Start.vc {w} {R : Ending → World → Prop} (h : crc_Start.pre  w R) : Calls Tryz.prog n_crc_Start #[] w R :=
 calls_of_eq (an := ⟨[], [], []⟩) (args := []) Tryz.noNG Tryz.mixed Tryz.func296 h (by kernel_rfl)
def crc_Check_With.pre (a0 : Int) (a1 : Sl) (w : World) (R : Ending → World → Prop) : Prop :=
 Calls Tryz.prog n_crc_steps #[] w (fun e w0 => ∃ (x1 : Int) (x2 : Int) (x3 : Int) (x4 : Int) (x5 : Int) (x6 : Int) (x7 : Int) (x8 : Int) (x9 : Int) (x10 : Int) (x11 : Int) (x12 : Int) (x13 : Int) (x14 : Int) (x15 : Int) (x16 : Int), e = .returned (.agg #[.int .u16 x1, .int .u16 x2, .int .u16 x3, .int .u16 x4, .int .u16 x5, .int .u16 x6, .int .u16 x7, .int .u16 x8, .int .u16 x9, .int .u16 x10, .int .u16 x11, .int .u16 x12, .int .u16 x13, .int .u16 x14, .int .u16 x15, .int .u16 x16]) ∧
 ∀ w17 : World, w17 = w0.alloc (.cells #[.int .u16 0, .int .u16 0, .int .u16 0, .int .u16 0, .int .u16 0, .int .u16 0, .int .u16 0, .int .u16 0, .int .u16 0, .int .u16 0, .int .u16 0, .int .u16 0, .int .u16 0, .int .u16 0, .int .u16 0, .int .u16 0] 358) →
 (true = true ∧ Wr w17 (some ⟨w0.heap.size, 0, none⟩) 16) ∧ (∀ w18 : World, w18 = setP w17 (some ⟨w0.heap.size, 0, none⟩) [.int .u16 x1, .int .u16 x2, .int .u16 x3, .int .u16 x4, .int .u16 x5, .int .u16 x6, .int .u16 x7, .int .u16 x8, .int .u16 x9, .int .u16 x10, .int .u16 x11, .int .u16 x12, .int .u16 x13, .int .u16 x14, .int .u16 x15, .int .u16 x16] →
 ∃ I19 : Nat → Int → Int → World → Prop,
 (∃ n20, I19 n20 (0) (a0) w18) ∧
 ∀ (n20 : Nat) (us21 : Nat → Value) (x22 : Int) (x23 : Int) (w24 : World), I19 n20 x22 x23 w24 →
 Br (decide ((x22 : Int) < ((a1.n : Nat) : Int)))
 (InB a1.a x22 a1.n ∧ ∃ (x26 : Int), ld w24 (padd a1.a ((x22 : Int).toNat * 1)) = some (.int .u8 x26) ∧
 (0 : Int) ≤ (bXor .u16 ((x23 : Int).fdiv (2 ^ (min (12 : Int).toNat 16))) (IntKind.wrap .u16 ((x26 : Int).fdiv (2 ^ (min (4 : Int).toNat 8))))) ∧ ((bXor .u16 ((x23 : Int).fdiv (2 ^ (min (12 : Int).toNat 16))) (IntKind.wrap .u16 ((x26 : Int).fdiv (2 ^ (min (4 : Int).toNat 8))))) : Int) < ((16 : Nat) : Int) ∧ ∃ (x27 : Int), ld w24 (padd (some ⟨w0.heap.size, 0, none⟩) (((bXor .u16 ((x23 : Int).fdiv (2 ^ (min (12 : Int).toNat 16))) (IntKind.wrap .u16 ((x26 : Int).fdiv (2 ^ (min (4 : Int).toNat 8))))) : Int).toNat * 1)) = some (.int .u16 x27) ∧
 (0 : Int) ≤ (bXor .u16 (((bXor .u16 (IntKind.wrap .u16 (x23 * 2 ^ (min (4 : Int).toNat 16))) x27) : Int).fdiv (2 ^ (min (12 : Int).toNat 16))) (IntKind.wrap .u16 (bAnd .u8 x26 15))) ∧ ((bXor .u16 (((bXor .u16 (IntKind.wrap .u16 (x23 * 2 ^ (min (4 : Int).toNat 16))) x27) : Int).fdiv (2 ^ (min (12 : Int).toNat 16))) (IntKind.wrap .u16 (bAnd .u8 x26 15))) : Int) < ((16 : Nat) : Int) ∧ ∃ (x28 : Int), ld w24 (padd (some ⟨w0.heap.size, 0, none⟩) (((bXor .u16 (((bXor .u16 (IntKind.wrap .u16 (x23 * 2 ^ (min (4 : Int).toNat 16))) x27) : Int).fdiv (2 ^ (min (12 : Int).toNat 16))) (IntKind.wrap .u16 (bAnd .u8 x26 15))) : Int).toNat * 1)) = some (.int .u16 x28) ∧
 ∃ n25, n25 < n20 ∧ I19 n25 ((IntKind.wrap .i64 (x22 + 1))) ((bXor .u16 (IntKind.wrap .u16 ((bXor .u16 (IntKind.wrap .u16 (x23 * 2 ^ (min (4 : Int).toNat 16))) x27) * 2 ^ (min (4 : Int).toNat 16))) x28)) w24)
 (R (.returned (.int .u16 x23)) w24)))
theorem crc_Check_With.vc {a0 a1 w} {R : Ending → World → Prop} (h : crc_Check_With.pre a0 a1 w R) : Calls Tryz.prog n_crc_Check_With #[.int .u16 a0, .slice a1.a a1.n a1.c] w R :=
 calls_of_eq (an := ⟨[(3, ⟨[(11, .int .i64), (0, .int .u16)], [], []⟩)], [], []⟩) (args := [.int .u16 a0, .slice a1.a a1.n a1.c]) Tryz.noNG Tryz.mixed Tryz.func297 h (by kernel_rfl)
def crc_steps.pre  (w : World) (R : Ending → World → Prop) : Prop :=
 ∀ w0 : World, w0 = w.alloc (.cells #[.int .u16 0, .int .u16 0, .int .u16 0, .int .u16 0, .int .u16 0, .int .u16 0, .int .u16 0, .int .u16 0, .int .u16 0, .int .u16 0, .int .u16 0, .int .u16 0, .int .u16 0, .int .u16 0, .int .u16 0, .int .u16 0] 358) →
 ∀ w1 : World, w1 = w0.alloc (.cells #[.int .u16 0, .int .u16 0, .int .u16 0, .int .u16 0, .int .u16 0, .int .u16 0, .int .u16 0, .int .u16 0, .int .u16 0, .int .u16 0, .int .u16 0, .int .u16 0, .int .u16 0, .int .u16 0, .int .u16 0, .int .u16 0] 358) →
 ∃ I2 : Nat → Int → World → Prop,
 (∃ n3, I2 n3 (0) w1) ∧
 ∀ (n3 : Nat) (us4 : Nat → Value) (x5 : Int) (w6 : World), I2 n3 x5 w6 →
 Br (decide ((x5 : Int) < 16))
 (∃ I8 : Nat → Int → Int → World → Prop,
 (∃ n9, I8 n9 (0) ((IntKind.wrap .u16 ((IntKind.wrap .u16 x5) * 2 ^ (min (12 : Int).toNat 16)))) w6) ∧
 ∀ (n9 : Nat) (us10 : Nat → Value) (x11 : Int) (x12 : Int) (w13 : World), I8 n9 x11 x12 w13 →
 Br (decide ((x11 : Int) < 4))
 (Calls Tryz.prog n_crc_steps_1 #[.int .u16 x12] w13 (fun e w15 => ∃ (x16 : Int), e = .returned (.int .u16 x16) ∧
 ∃ n14, n14 < n9 ∧ I8 n14 ((IntKind.wrap .i64 (x11 + 1))) (x16) w15))
 ((0 : Int) ≤ x5 ∧ (x5 : Int) < ((16 : Nat) : Int) ∧ (true = true ∧ Wr w13 (padd (some ⟨w0.heap.size, 0, none⟩) ((x5 : Int).toNat * 1)) 1) ∧ (∀ w17 : World, w17 = setP w13 (padd (some ⟨w0.heap.size, 0, none⟩) ((x5 : Int).toNat * 1)) [.int .u16 x12] →
 ∃ n7, n7 < n3 ∧ I2 n7 ((IntKind.wrap .i64 (x5 + 1))) w17)))
 (∃ (x18 : Int) (x19 : Int) (x20 : Int) (x21 : Int) (x22 : Int) (x23 : Int) (x24 : Int) (x25 : Int) (x26 : Int) (x27 : Int) (x28 : Int) (x29 : Int) (x30 : Int) (x31 : Int) (x32 : Int) (x33 : Int), LoadL w6 (some ⟨w0.heap.size, 0, none⟩) 0 [.int .u16 x18, .int .u16 x19, .int .u16 x20, .int .u16 x21, .int .u16 x22, .int .u16 x23, .int .u16 x24, .int .u16 x25, .int .u16 x26, .int .u16 x27, .int .u16 x28, .int .u16 x29, .int .u16 x30, .int .u16 x31, .int .u16 x32, .int .u16 x33] ∧
 (true = true ∧ Wr w6 (some ⟨w.heap.size, 0, none⟩) 16) ∧ (∀ w34 : World, w34 = setP w6 (some ⟨w.heap.size, 0, none⟩) [.int .u16 x18, .int .u16 x19, .int .u16 x20, .int .u16 x21, .int .u16 x22, .int .u16 x23, .int .u16 x24, .int .u16 x25, .int .u16 x26, .int .u16 x27, .int .u16 x28, .int .u16 x29, .int .u16 x30, .int .u16 x31, .int .u16 x32, .int .u16 x33] →
 ∃ (x35 : Int) (x36 : Int) (x37 : Int) (x38 : Int) (x39 : Int) (x40 : Int) (x41 : Int) (x42 : Int) (x43 : Int) (x44 : Int) (x45 : Int) (x46 : Int) (x47 : Int) (x48 : Int) (x49 : Int) (x50 : Int), LoadL w34 (some ⟨w.heap.size, 0, none⟩) 0 [.int .u16 x35, .int .u16 x36, .int .u16 x37, .int .u16 x38, .int .u16 x39, .int .u16 x40, .int .u16 x41, .int .u16 x42, .int .u16 x43, .int .u16 x44, .int .u16 x45, .int .u16 x46, .int .u16 x47, .int .u16 x48, .int .u16 x49, .int .u16 x50] ∧
 R (.returned (.agg #[.int .u16 x35, .int .u16 x36, .int .u16 x37, .int .u16 x38, .int .u16 x39, .int .u16 x40, .int .u16 x41, .int .u16 x42, .int .u16 x43, .int .u16 x44, .int .u16 x45, .int .u16 x46, .int .u16 x47, .int .u16 x48, .int .u16 x49, .int .u16 x50])) w34))
theorem crc_steps.vc {w} {R : Ending → World → Prop} (h : crc_steps.pre  w R) : Calls Tryz.prog n_crc_steps #[] w R :=
 calls_of_eq (an := ⟨[(8, ⟨[(11, .int .i64), (4, .int .u16)], [], []⟩), (4, ⟨[(5, .int .i64)], [], []⟩)], [], []⟩) (args := []) Tryz.noNG Tryz.mixed Tryz.func310 h (by kernel_rfl)
def crc_steps_1.pre (a0 : Int) (w : World) (R : Ending → World → Prop) : Prop :=
 Br (((bAnd .u16 a0 32768) : Int) != 0)
 (R (.returned (.int .u16 (bXor .u16 (IntKind.wrap .u16 (a0 * 2 ^ (min (1 : Int).toNat 16))) 4129))) w)
 (R (.returned (.int .u16 (IntKind.wrap .u16 (a0 * 2 ^ (min (1 : Int).toNat 16))))) w)
theorem crc_steps_1.vc {a0 w} {R : Ending → World → Prop} (h : crc_steps_1.pre a0 w R) : Calls Tryz.prog n_crc_steps_1 #[.int .u16 a0] w R :=
 calls_of_eq (an := ⟨[], [], []⟩) (args := [.int .u16 a0]) Tryz.noNG Tryz.mixed Tryz.func321 h (by kernel_rfl)
def slices_Concat_byte.pre (a0 : Sl) (w : World) (R : Ending → World → Prop) : Prop :=
 ∃ I0 : Nat → Int → Int → World → Prop,
 (∃ n1, I0 n1 (0) (0) w) ∧
 ∀ (n1 : Nat) (us2 : Nat → Value) (x3 : Int) (x4 : Int) (w5 : World), I0 n1 x3 x4 w5 →
 Br (decide ((x3 : Int) < ((a0.n : Nat) : Int)))
 (InB a0.a x3 a0.n ∧ ∃ (s7 : Sl), ld w5 (padd a0.a ((x3 : Int).toNat * 1)) = some (.slice s7.a s7.n s7.c) ∧
 Br (decide (((IntKind.wrap .i64 (x4 + ((s7.n : Nat) : Int))) : Int) < 0))
 (False)
 (∃ n6, n6 < n1 ∧ I0 n6 ((IntKind.wrap .i64 (x3 + 1))) ((IntKind.wrap .i64 (x4 + ((s7.n : Nat) : Int)))) w5))
 (Calls Tryz.prog n_slices_Grow_byte #[.slice none 0 0, .int .i64 x4] w5 (fun e w8 => ∃ (s9 : Sl), e = .returned (.slice s9.a s9.n s9.c) ∧
 ∃ I10 : Nat → Int → Sl → World → Prop,
 (∃ n11, I10 n11 (0) ⟨s9.a, s9.n, s9.c⟩ w8) ∧
 ∀ (n11 : Nat) (us12 : Nat → Value) (x13 : Int) (s14 : Sl) (w15 : World), I10 n11 x13 s14 w15 →
 Br (decide ((x13 : Int) < ((a0.n : Nat) : Int)))
 (InB a0.a x13 a0.n ∧ ∃ (s17 : Sl), ld w15 (padd a0.a ((x13 : Int).toNat * 1)) = some (.slice s17.a s17.n s17.c) ∧
 ∃ l18 : List Value, Rd w15 s17.a l18 ∧ AppPre 1 1 w15 ⟨s14.a, s14.n, s14.c⟩ s17.n l18 ∧ ∀ (s19 : Sl) (w20 : World), AppRes 5 1 w15 ⟨s14.a, s14.n, s14.c⟩ s17.n l18 s19 w20 →
 ∃ n16, n16 < n11 ∧ I10 n16 ((IntKind.wrap .i64 (x13 + 1))) ⟨s19.a, s19.n, s19.c⟩ w20)
 (R (.returned (.slice s14.a s14.n s14.c)) w15)))
theorem slices_Concat_byte.vc {a0 w} {R : Ending → World → Prop} (h : slices_Concat_byte.pre a0 w R) : Calls Tryz.prog n_slices_Concat_byte #[.slice a0.a a0.n a0.c] w R :=
 calls_of_eq (an := ⟨[(11, ⟨[(27, .int .i64), (6, .slice)], [], []⟩), (3, ⟨[(11, .int .i64), (3, .int .i64)], [], []⟩)], [], []⟩) (args := [.slice a0.a a0.n a0.c]) Tryz.noNG Tryz.mixed Tryz.func226 h (by kernel_rfl)
def slices_Grow_byte.pre (a0 : Sl) (a1 : Int) (w : World) (R : Ending → World → Prop) : Prop :=
 Br (decide ((a1 : Int) < 0))
 (False)
 (Br (decide (((IntKind.wrap .i64 (a1 - (IntKind.wrap .i64 (((a0.c : Nat) : Int) - ((a0.n : Nat) : Int))))) : Int) > 0))
 ((0 : Int) ≤ ((a0.c : Nat) : Int) ∧ ((a0.c : Nat) : Int) ≤ ((a0.c : Nat) : Int) ∧ ((0 : Int) ≤ (IntKind.wrap .i64 (a1 - (IntKind.wrap .i64 (((a0.c : Nat) : Int) - ((a0.n : Nat) : Int))))) ∧ IntKind.wrap .i64 (IntKind.wrap .i64 (a1 - (IntKind.wrap .i64 (((a0.c : Nat) : Int) - ((a0.n : Nat) : Int))))) = (IntKind.wrap .i64 (a1 - (IntKind.wrap .i64 (((a0.c : Nat) : Int) - ((a0.n : Nat) : Int))))) ∧ ((IntKind.wrap .i64 (a1 - (IntKind.wrap .i64 (((a0.c : Nat) : Int) - ((a0.n : Nat) : Int))))) : Int) * 1 ≤ 281474976710656) ∧ AppPre 1 1 w ⟨(slBase a0.a (0) (a0.c) 1), ((((a0.c : Nat) : Int) : Int).toNat - 0), (a0.c - 0)⟩ ((IntKind.wrap .i64 (a1 - (IntKind.wrap .i64 (((a0.c : Nat) : Int) - ((a0.n : Nat) : Int))))) : Int).toNat (zeroRows [.int .u8 0] ((IntKind.wrap .i64 (a1 - (IntKind.wrap .i64 (((a0.c : Nat) : Int) - ((a0.n : Nat) : Int))))) : Int).toNat) ∧ ∀ (s0 : Sl) (w1 : World), AppRes 5 1 w ⟨(slBase a0.a (0) (a0.c) 1), ((((a0.c : Nat) : Int) : Int).toNat - 0), (a0.c - 0)⟩ ((IntKind.wrap .i64 (a1 - (IntKind.wrap .i64 (((a0.c : Nat) : Int) - ((a0.n : Nat) : Int))))) : Int).toNat (zeroRows [.int .u8 0] ((IntKind.wrap .i64 (a1 - (IntKind.wrap .i64 (((a0.c : Nat) : Int) - ((a0.n : Nat) : Int))))) : Int).toNat) s0 w1 →
 (0 : Int) ≤ ((a0.n : Nat) : Int) ∧ ((a0.n : Nat) : Int) ≤ ((s0.c : Nat) : Int) ∧ R (.returned (.slice (slBase s0.a (0) (s0.c) 1) ((((a0.n : Nat) : Int) : Int).toNat - 0) (s0.c - 0))) w1)
 (R (.returned (.slice a0.a a0.n a0.c)) w))
theorem slices_Grow_byte.vc {a0 a1 w} {R : Ending → World → Prop} (h : slices_Grow_byte.pre a0 a1 w R) : Calls Tryz.prog n_slices_Grow_byte #[.slice a0.a a0.n a0.c, .int .i64 a1] w R :=
 calls_of_eq (an := ⟨[], [], []⟩) (args := [.slice a0.a a0.n a0.c, .int .i64 a1]) Tryz.noNG Tryz.mixed Tryz.func271 h (by kernel_rfl)
end Go.Proofs.YtkkkfkopcfdmaaaGreatDoor
