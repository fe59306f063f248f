import Derived.Test.YtalpkjfpmdpbiaaGreatDoorGW
set_option linter.all false
namespace Go.Proofs.YtalpkjfpmdpbiaaGreatDoor
open Go Go.Vc Go.RowKit Go.Proofs
set_option maxRecDepth 100000
set_option maxHeartbeats 8000000
set_option linter.unusedVariables false
abbrev n_queue_New : FuncId := 60
abbrev n_queue_Queue_Add : FuncId := 88
abbrev n_queue_Queue_Due : FuncId := 46
abbrev n_queue_Queue_Len : FuncId := 48
abbrev n_ref17_SameCells : FuncId := 21
abbrev n_ref17_New : FuncId := 84
abbrev n_queue_Queue_At : FuncId := 131
abbrev n_queue_Queue_Drop : FuncId := 132
abbrev n_queue_Queue_push : FuncId := 133
abbrev n_slices_Delete_Item : FuncId := 90
abbrev n_queue_Queue_All : FuncId := 52
abbrev n_slices_DeleteFunc_Item : FuncId := 177
abbrev n_queue_Queue_Drop_1 : FuncId := 178
abbrev n_slices_BinarySearchFunc_Item : FuncId := 179
abbrev n_queue_Queue_push_1 : FuncId := 180
abbrev n_cmp_Or_int : FuncId := 181
abbrev n_cmp_Compare_int : FuncId := 182
abbrev n_slices_Insert_Item : FuncId := 183
abbrev n_slices_Clone_Item : FuncId := 98
abbrev n_slices_IndexFunc_Item : FuncId := 220
abbrev n_cmp_isNaN_int : FuncId := 221
abbrev n_slices_rotateRight_Item : FuncId := 223
def queue_New.pre (a0 : Int) (w : World) (R : Ending → World → Prop) : Prop :=
 ∀ w0 : World, w0 = w.alloc (.map #[] 0) →
 ∀ w1 : World, w1 = w0.alloc (.cells #[.int .i64 (if 4096 < (if 1 > a0 then 1 else a0) then 4096 else (if 1 > a0 then 1 else a0)), .int .i64 0, .slice none 0 0, .map (some w.heap.size)] 158) →
 R (.returned (.pointer (some ⟨w0.heap.size, 0, none⟩))) w1
theorem queue_New.vc {a0 w} {R : Ending → World → Prop} (h : queue_New.pre a0 w R) : Calls Tryz.prog n_queue_New #[.int .i64 a0] w R :=
 calls_of_eq (an := ⟨[], [], []⟩) (args := [.int .i64 a0]) Tryz.noNG Tryz.mixed Tryz.func60 h (by kernel_rfl)
def queue_Queue_Add.pre (a0 : Addr) (a1_0 : Int) (a1_1 : Int) (a1_2 : Int) (a2 : Int) (w : World) (R : Ending → World → Prop) : Prop :=
 ∀ w0 : World, w0 = w.alloc (.cells #[.int .i64 a1_0, .int .i64 a1_1, .int .i64 a1_2] 23) →
 Calls Tryz.prog n_queue_Queue_At #[.pointer (some a0), .agg #[.int .i64 a1_0, .int .i64 a1_1, .int .i64 a1_2]] w0 (fun e w1 => ∃ (x2 : Int) (b3 : Bool), e = .returned (.tuple #[.int .i64 x2, .bool b3]) ∧ w1.heap[w.heap.size]? = w0.heap[w.heap.size]? ∧
 Br b3
 (Br (decide ((x2 : Int) ≤ a2))
 (R (.returned (.bool false)) w1)
 (Br b3
 (Calls Tryz.prog n_queue_Queue_Drop #[.pointer (some a0), .agg #[.int .i64 a1_0, .int .i64 a1_1, .int .i64 a1_2]] w1 (fun e w4 => ∃ (b5 : Bool), e = .returned (.bool b5) ∧ w4.heap[w.heap.size]? = w1.heap[w.heap.size]? ∧
 Calls Tryz.prog n_queue_Queue_push #[.pointer (some a0), .agg #[.int .i64 a2, .int .i64 a1_0, .int .i64 a1_1, .int .i64 a1_2]] w4 (fun e w6 => e = .returned (.tuple #[]) ∧ w6.heap[w.heap.size]? = w4.heap[w.heap.size]? ∧
 R (.returned (.bool true)) w6)))
 (∃ (s7 : Sl), ld w1.drew (padd (some a0) 2) = some (.slice s7.a s7.n s7.c) ∧
 ∃ (x8 : Int), ld w1.drew (padd (some a0) 0) = some (.int .i64 x8) ∧
 Br ((((s7.n : Nat) : Int) : Int) == x8)
 (∃ (x9 : Int), ld w1.drew (padd (some a0) 1) = some (.int .i64 x9) ∧
 (true = true ∧ Wr w1.drew (padd (some a0) 1) 1) ∧ pblk (padd (some a0) 1) ≠ some w.heap.size ∧ (∀ w10 : World, w10 = setP w1.drew (padd (some a0) 1) [.int .i64 (IntKind.wrap .i64 (x9 + 1))] →
 R (.returned (.bool false)) w10))
 (Calls Tryz.prog n_queue_Queue_push #[.pointer (some a0), .agg #[.int .i64 a2, .int .i64 a1_0, .int .i64 a1_1, .int .i64 a1_2]] w1.drew (fun e w11 => e = .returned (.tuple #[]) ∧ w11.heap[w.heap.size]? = w1.drew.heap[w.heap.size]? ∧
 R (.returned (.bool true)) w11)))))
 (Br b3
 (Calls Tryz.prog n_queue_Queue_Drop #[.pointer (some a0), .agg #[.int .i64 a1_0, .int .i64 a1_1, .int .i64 a1_2]] w1 (fun e w12 => ∃ (b13 : Bool), e = .returned (.bool b13) ∧ w12.heap[w.heap.size]? = w1.heap[w.heap.size]? ∧
 Calls Tryz.prog n_queue_Queue_push #[.pointer (some a0), .agg #[.int .i64 a2, .int .i64 a1_0, .int .i64 a1_1, .int .i64 a1_2]] w12 (fun e w14 => e = .returned (.tuple #[]) ∧ w14.heap[w.heap.size]? = w12.heap[w.heap.size]? ∧
 R (.returned (.bool true)) w14)))
 (∃ (s15 : Sl), ld w1.drew (padd (some a0) 2) = some (.slice s15.a s15.n s15.c) ∧
 ∃ (x16 : Int), ld w1.drew (padd (some a0) 0) = some (.int .i64 x16) ∧
 Br ((((s15.n : Nat) : Int) : Int) == x16)
 (∃ (x17 : Int), ld w1.drew (padd (some a0) 1) = some (.int .i64 x17) ∧
 (true = true ∧ Wr w1.drew (padd (some a0) 1) 1) ∧ pblk (padd (some a0) 1) ≠ some w.heap.size ∧ (∀ w18 : World, w18 = setP w1.drew (padd (some a0) 1) [.int .i64 (IntKind.wrap .i64 (x17 + 1))] →
 R (.returned (.bool false)) w18))
 (Calls Tryz.prog n_queue_Queue_push #[.pointer (some a0), .agg #[.int .i64 a2, .int .i64 a1_0, .int .i64 a1_1, .int .i64 a1_2]] w1.drew (fun e w19 => e = .returned (.tuple #[]) ∧ w19.heap[w.heap.size]? = w1.drew.heap[w.heap.size]? ∧
 R (.returned (.bool true)) w19)))))
theorem queue_Queue_Add.vc {a0 a1_0 a1_1 a1_2 a2 w} {R : Ending → World → Prop} (h : queue_Queue_Add.pre a0 a1_0 a1_1 a1_2 a2 w R) : Calls Tryz.prog n_queue_Queue_Add #[.pointer (some a0), .agg #[.int .i64 a1_0, .int .i64 a1_1, .int .i64 a1_2], .int .i64 a2] w R :=
 calls_of_eq (an := ⟨[], [], []⟩) (args := [.pointer (some a0), .agg #[.int .i64 a1_0, .int .i64 a1_1, .int .i64 a1_2], .int .i64 a2]) Tryz.noNG Tryz.mixed Tryz.func88 h (by kernel_rfl)
def queue_Queue_Due.pre (a0 : Addr) (a1 : Int) (a2 : Int) (w : World) (R : Ending → World → Prop) : Prop :=
 ∃ I0 : Nat → Int → World → Prop,
 (∃ n1, I0 n1 (0) w) ∧
 ∀ (n1 : Nat) (us2 : Nat → Value) (x3 : Int) (w4 : World), I0 n1 x3 w4 →
 ∃ (s6 : Sl), ld w4 (padd (some a0) 2) = some (.slice s6.a s6.n s6.c) ∧
 Br (decide ((x3 : Int) < ((s6.n : Nat) : Int)))
 (Br (decide ((x3 : Int) < a2))
 (∃ (s7 : Sl), ld w4 (padd (some a0) 2) = some (.slice s7.a s7.n s7.c) ∧
 InB s7.a x3 s7.n ∧ AndL (nnC (padd s7.a ((x3 : Int).toNat * 4))) (∃ (x8 : Int), ld w4 (padd (padd s7.a ((x3 : Int).toNat * 4)) 0) = some (.int .i64 x8) ∧
 Br (decide ((x8 : Int) ≤ a1))
 (∃ n5, n5 < n1 ∧ I0 n5 ((IntKind.wrap .i64 (x3 + 1))) w4)
 (∃ (s9 : Sl), ld w4 (padd (some a0) 2) = some (.slice s9.a s9.n s9.c) ∧
 (0 : Int) ≤ x3 ∧ x3 ≤ ((s9.c : Nat) : Int) ∧ (0 : Int) ≤ x3 ∧ (x3 : Int) ≤ x3 ∧ ∃ I10 : Nat → Int → Sl → World → Prop,
 (∃ n11, I10 n11 (0) ⟨none, 0, 0⟩ w4) ∧
 ∀ (n11 : Nat) (us12 : Nat → Value) (x13 : Int) (s14 : Sl) (w15 : World), I10 n11 x13 s14 w15 →
 Br (decide ((x13 : Int) < ((((x3 : Int).toNat - 0) : Nat) : Int)))
 (InB (slBase s9.a (0) ((x3 : Int).toNat) 4) x13 ((x3 : Int).toNat - 0) ∧ ∃ (x17 : Int) (x18 : Int) (x19 : Int) (x20 : Int), LoadL w15 (padd (slBase s9.a (0) ((x3 : Int).toNat) 4) ((x13 : Int).toNat * 4)) 0 [.int .i64 x17, .int .i64 x18, .int .i64 x19, .int .i64 x20] ∧
 ∀ w21 : World, w21 = w15.alloc (.cells #[.int .i64 0, .int .i64 0, .int .i64 0, .int .i64 0] 120) →
 ∀ w22 : World, w22 = w21.setRow w15.heap.size #[.int .i64 x17, .int .i64 x18, .int .i64 x19, .int .i64 x20] →
 ∀ w23 : World, w23 = w22.alloc (.cells #[.int .i64 x18, .int .i64 x19, .int .i64 x20] 23) →
 AppPre 24 3 w23 ⟨s14.a, s14.n, s14.c⟩ 1 [.int .i64 x18, .int .i64 x19, .int .i64 x20] ∧ ∀ (s24 : Sl) (w25 : World), AppRes 23 3 w23 ⟨s14.a, s14.n, s14.c⟩ 1 [.int .i64 x18, .int .i64 x19, .int .i64 x20] s24 w25 → w25.heap[w15.heap.size]? = w23.heap[w15.heap.size]? ∧ w25.heap[w22.heap.size]? = w23.heap[w22.heap.size]? ∧
 ∃ (m26 : Option Nat), ld w25.drew (padd (some a0) 3) = some (.map m26) ∧
 ∃ (G27 : Value → Prop) (kvs28 : List (Value × Value)), KeyOk Tryz.prog 23 G27 ∧ (m26 : Option Nat).isSome = true ∧ MapIs G27 w25.drew m26 kvs28 ∧ G27 (.agg #[.int .i64 x18, .int .i64 x19, .int .i64 x20]) ∧ ∀ w29 : World, Rec ((m26 : Option Nat).getD 0) w25.drew w29 → MapIs G27 w29 m26 (delL kvs28 (.agg #[.int .i64 x18, .int .i64 x19, .int .i64 x20])) →
 ∃ n16, n16 < n11 ∧ I10 n16 ((IntKind.wrap .i64 (x13 + 1))) ⟨s24.a, s24.n, s24.c⟩ w29)
 (∃ (s30 : Sl), ld w15 (padd (some a0) 2) = some (.slice s30.a s30.n s30.c) ∧
 Calls Tryz.prog n_slices_Delete_Item #[.slice s30.a s30.n s30.c, .int .i64 0, .int .i64 x3] w15 (fun e w31 => ∃ (s32 : Sl), e = .returned (.slice s32.a s32.n s32.c) ∧
 (true = true ∧ Wr w31 (padd (some a0) 2) 1) ∧ (∀ w33 : World, w33 = setP w31 (padd (some a0) 2) [.slice s32.a s32.n s32.c] →
 R (.returned (.slice s14.a s14.n s14.c)) w33))))))
 (∃ (s34 : Sl), ld w4 (padd (some a0) 2) = some (.slice s34.a s34.n s34.c) ∧
 (0 : Int) ≤ x3 ∧ x3 ≤ ((s34.c : Nat) : Int) ∧ (0 : Int) ≤ x3 ∧ (x3 : Int) ≤ x3 ∧ ∃ I35 : Nat → Int → Sl → World → Prop,
 (∃ n36, I35 n36 (0) ⟨none, 0, 0⟩ w4) ∧
 ∀ (n36 : Nat) (us37 : Nat → Value) (x38 : Int) (s39 : Sl) (w40 : World), I35 n36 x38 s39 w40 →
 Br (decide ((x38 : Int) < ((((x3 : Int).toNat - 0) : Nat) : Int)))
 (InB (slBase s34.a (0) ((x3 : Int).toNat) 4) x38 ((x3 : Int).toNat - 0) ∧ ∃ (x42 : Int) (x43 : Int) (x44 : Int) (x45 : Int), LoadL w40 (padd (slBase s34.a (0) ((x3 : Int).toNat) 4) ((x38 : Int).toNat * 4)) 0 [.int .i64 x42, .int .i64 x43, .int .i64 x44, .int .i64 x45] ∧
 ∀ w46 : World, w46 = w40.alloc (.cells #[.int .i64 0, .int .i64 0, .int .i64 0, .int .i64 0] 120) →
 ∀ w47 : World, w47 = w46.setRow w40.heap.size #[.int .i64 x42, .int .i64 x43, .int .i64 x44, .int .i64 x45] →
 ∀ w48 : World, w48 = w47.alloc (.cells #[.int .i64 x43, .int .i64 x44, .int .i64 x45] 23) →
 AppPre 24 3 w48 ⟨s39.a, s39.n, s39.c⟩ 1 [.int .i64 x43, .int .i64 x44, .int .i64 x45] ∧ ∀ (s49 : Sl) (w50 : World), AppRes 23 3 w48 ⟨s39.a, s39.n, s39.c⟩ 1 [.int .i64 x43, .int .i64 x44, .int .i64 x45] s49 w50 → w50.heap[w40.heap.size]? = w48.heap[w40.heap.size]? ∧ w50.heap[w47.heap.size]? = w48.heap[w47.heap.size]? ∧
 ∃ (m51 : Option Nat), ld w50.drew (padd (some a0) 3) = some (.map m51) ∧
 ∃ (G52 : Value → Prop) (kvs53 : List (Value × Value)), KeyOk Tryz.prog 23 G52 ∧ (m51 : Option Nat).isSome = true ∧ MapIs G52 w50.drew m51 kvs53 ∧ G52 (.agg #[.int .i64 x43, .int .i64 x44, .int .i64 x45]) ∧ ∀ w54 : World, Rec ((m51 : Option Nat).getD 0) w50.drew w54 → MapIs G52 w54 m51 (delL kvs53 (.agg #[.int .i64 x43, .int .i64 x44, .int .i64 x45])) →
 ∃ n41, n41 < n36 ∧ I35 n41 ((IntKind.wrap .i64 (x38 + 1))) ⟨s49.a, s49.n, s49.c⟩ w54)
 (∃ (s55 : Sl), ld w40 (padd (some a0) 2) = some (.slice s55.a s55.n s55.c) ∧
 Calls Tryz.prog n_slices_Delete_Item #[.slice s55.a s55.n s55.c, .int .i64 0, .int .i64 x3] w40 (fun e w56 => ∃ (s57 : Sl), e = .returned (.slice s57.a s57.n s57.c) ∧
 (true = true ∧ Wr w56 (padd (some a0) 2) 1) ∧ (∀ w58 : World, w58 = setP w56 (padd (some a0) 2) [.slice s57.a s57.n s57.c] →
 R (.returned (.slice s39.a s39.n s39.c)) w58)))))
 (∃ (s59 : Sl), ld w4 (padd (some a0) 2) = some (.slice s59.a s59.n s59.c) ∧
 (0 : Int) ≤ x3 ∧ x3 ≤ ((s59.c : Nat) : Int) ∧ (0 : Int) ≤ x3 ∧ (x3 : Int) ≤ x3 ∧ ∃ I60 : Nat → Int → Sl → World → Prop,
 (∃ n61, I60 n61 (0) ⟨none, 0, 0⟩ w4) ∧
 ∀ (n61 : Nat) (us62 : Nat → Value) (x63 : Int) (s64 : Sl) (w65 : World), I60 n61 x63 s64 w65 →
 Br (decide ((x63 : Int) < ((((x3 : Int).toNat - 0) : Nat) : Int)))
 (InB (slBase s59.a (0) ((x3 : Int).toNat) 4) x63 ((x3 : Int).toNat - 0) ∧ ∃ (x67 : Int) (x68 : Int) (x69 : Int) (x70 : Int), LoadL w65 (padd (slBase s59.a (0) ((x3 : Int).toNat) 4) ((x63 : Int).toNat * 4)) 0 [.int .i64 x67, .int .i64 x68, .int .i64 x69, .int .i64 x70] ∧
 ∀ w71 : World, w71 = w65.alloc (.cells #[.int .i64 0, .int .i64 0, .int .i64 0, .int .i64 0] 120) →
 ∀ w72 : World, w72 = w71.setRow w65.heap.size #[.int .i64 x67, .int .i64 x68, .int .i64 x69, .int .i64 x70] →
 ∀ w73 : World, w73 = w72.alloc (.cells #[.int .i64 x68, .int .i64 x69, .int .i64 x70] 23) →
 AppPre 24 3 w73 ⟨s64.a, s64.n, s64.c⟩ 1 [.int .i64 x68, .int .i64 x69, .int .i64 x70] ∧ ∀ (s74 : Sl) (w75 : World), AppRes 23 3 w73 ⟨s64.a, s64.n, s64.c⟩ 1 [.int .i64 x68, .int .i64 x69, .int .i64 x70] s74 w75 → w75.heap[w65.heap.size]? = w73.heap[w65.heap.size]? ∧ w75.heap[w72.heap.size]? = w73.heap[w72.heap.size]? ∧
 ∃ (m76 : Option Nat), ld w75.drew (padd (some a0) 3) = some (.map m76) ∧
 ∃ (G77 : Value → Prop) (kvs78 : List (Value × Value)), KeyOk Tryz.prog 23 G77 ∧ (m76 : Option Nat).isSome = true ∧ MapIs G77 w75.drew m76 kvs78 ∧ G77 (.agg #[.int .i64 x68, .int .i64 x69, .int .i64 x70]) ∧ ∀ w79 : World, Rec ((m76 : Option Nat).getD 0) w75.drew w79 → MapIs G77 w79 m76 (delL kvs78 (.agg #[.int .i64 x68, .int .i64 x69, .int .i64 x70])) →
 ∃ n66, n66 < n61 ∧ I60 n66 ((IntKind.wrap .i64 (x63 + 1))) ⟨s74.a, s74.n, s74.c⟩ w79)
 (∃ (s80 : Sl), ld w65 (padd (some a0) 2) = some (.slice s80.a s80.n s80.c) ∧
 Calls Tryz.prog n_slices_Delete_Item #[.slice s80.a s80.n s80.c, .int .i64 0, .int .i64 x3] w65 (fun e w81 => ∃ (s82 : Sl), e = .returned (.slice s82.a s82.n s82.c) ∧
 (true = true ∧ Wr w81 (padd (some a0) 2) 1) ∧ (∀ w83 : World, w83 = setP w81 (padd (some a0) 2) [.slice s82.a s82.n s82.c] →
 R (.returned (.slice s64.a s64.n s64.c)) w83))))
theorem queue_Queue_Due.vc {a0 a1 a2 w} {R : Ending → World → Prop} (h : queue_Queue_Due.pre a0 a1 a2 w R) : Calls Tryz.prog n_queue_Queue_Due #[.pointer (some a0), .int .i64 a1, .int .i64 a2] w R :=
 calls_of_eq (an := ⟨[(6, ⟨[(45, .int .i64), (8, .slice)], [], []⟩), (6, ⟨[(45, .int .i64), (8, .slice)], [], []⟩), (6, ⟨[(45, .int .i64), (8, .slice)], [], []⟩), (2, ⟨[(7, .int .i64)], [], []⟩)], [], []⟩) (args := [.pointer (some a0), .int .i64 a1, .int .i64 a2]) Tryz.noNG Tryz.mixed Tryz.func46 h (by kernel_rfl)
def queue_Queue_Len.pre (a0 : Addr) (w : World) (R : Ending → World → Prop) : Prop :=
 ∃ (s0 : Sl), ld w (padd (some a0) 2) = some (.slice s0.a s0.n s0.c) ∧
 R (.returned (.int .i64 ((s0.n : Nat) : Int))) w
theorem queue_Queue_Len.vc {a0 w} {R : Ending → World → Prop} (h : queue_Queue_Len.pre a0 w R) : Calls Tryz.prog n_queue_Queue_Len #[.pointer (some a0)] w R :=
 calls_of_eq (an := ⟨[], [], []⟩) (args := [.pointer (some a0)]) Tryz.noNG Tryz.mixed Tryz.func48 h (by kernel_rfl)
def ref17_SameCells.pre (a0 : Sl) (a1 : Sl) (w : World) (R : Ending → World → Prop) : Prop :=
 Br ((((a0.n : Nat) : Int) : Int) != ((a1.n : Nat) : Int))
 (R (.returned (.bool false)) w)
 (∃ I0 : Nat → Int → World → Prop,
 (∃ n1, I0 n1 (0) w) ∧
 ∀ (n1 : Nat) (us2 : Nat → Value) (x3 : Int) (w4 : World), I0 n1 x3 w4 →
 Br (decide ((x3 : Int) < ((a0.n : Nat) : Int)))
 (InB a0.a x3 a0.n ∧ ∃ (x6 : Int) (x7 : Int) (x8 : Int), LoadL w4.drew (padd a0.a ((x3 : Int).toNat * 3)) 0 [.int .i64 x6, .int .i64 x7, .int .i64 x8] ∧
 InB a1.a x3 a1.n ∧ ∃ (x9 : Int) (x10 : Int) (x11 : Int), LoadL w4.drew (padd a1.a ((x3 : Int).toNat * 3)) 0 [.int .i64 x9, .int .i64 x10, .int .i64 x11] ∧
 Br (!(((x6 : Int) == x9) && (((x7 : Int) == x10) && ((x8 : Int) == x11))))
 (R (.returned (.bool false)) w4.drew)
 (∃ n5, n5 < n1 ∧ I0 n5 ((IntKind.wrap .i64 (x3 + 1))) w4.drew))
 (R (.returned (.bool true)) w4))
theorem ref17_SameCells.vc {a0 a1 w} {R : Ending → World → Prop} (h : ref17_SameCells.pre a0 a1 w R) : Calls Tryz.prog n_ref17_SameCells #[.slice a0.a a0.n a0.c, .slice a1.a a1.n a1.c] w R :=
 calls_of_eq (an := ⟨[(4, ⟨[(5, .int .i64)], [], []⟩)], [], []⟩) (args := [.slice a0.a a0.n a0.c, .slice a1.a a1.n a1.c]) Tryz.noNG Tryz.mixed Tryz.func21 h (by kernel_rfl)
def ref17_New.pre (a0 : Int) (w : World) (R : Ending → World → Prop) : Prop :=
 ∀ w0 : World, w0 = w.alloc (.cells #[.int .i64 0, .int .i64 0, .slice none 0 0] 36) →
 ∀ w1 : World, w1 = w0.setRow w.heap.size #[.int .i64 (if 4096 < (if 1 > a0 then 1 else a0) then 4096 else (if 1 > a0 then 1 else a0)), .int .i64 0, .slice none 0 0] →
 R (.returned (.agg #[.int .i64 (if 4096 < (if 1 > a0 then 1 else a0) then 4096 else (if 1 > a0 then 1 else a0)), .int .i64 0, .slice none 0 0])) w1
theorem ref17_New.vc {a0 w} {R : Ending → World → Prop} (h : ref17_New.pre a0 w R) : Calls Tryz.prog n_ref17_New #[.int .i64 a0] w R :=
 calls_of_eq (an := ⟨[], [], []⟩) (args := [.int .i64 a0]) Tryz.noNG Tryz.mixed Tryz.func84 h (by kernel_rfl)
def queue_Queue_At.pre (a0 : Addr) (a1_0 : Int) (a1_1 : Int) (a1_2 : Int) (w : World) (R : Ending → World → Prop) : Prop :=
 ∀ w0 : World, w0 = w.alloc (.cells #[.int .i64 a1_0, .int .i64 a1_1, .int .i64 a1_2] 23) →
 ∃ (m1 : Option Nat), ld w0.drew (padd (some a0) 3) = some (.map m1) ∧
 ∃ (G2 : Value → Prop) (kvs3 : List (Value × Value)), KeyOk Tryz.prog 23 G2 ∧ MapIs G2 w0.drew m1 kvs3 ∧ G2 (.agg #[.int .i64 a1_0, .int .i64 a1_1, .int .i64 a1_2]) ∧ ∃ (x4 : Int), ∃ b5 : Bool, Look kvs3 (.agg #[.int .i64 a1_0, .int .i64 a1_1, .int .i64 a1_2]) (.int .i64 0) (.int .i64 x4) b5 ∧
 R (.returned (.tuple #[.int .i64 x4, .bool b5])) w0.drew
theorem queue_Queue_At.vc {a0 a1_0 a1_1 a1_2 w} {R : Ending → World → Prop} (h : queue_Queue_At.pre a0 a1_0 a1_1 a1_2 w R) : Calls Tryz.prog n_queue_Queue_At #[.pointer (some a0), .agg #[.int .i64 a1_0, .int .i64 a1_1, .int .i64 a1_2]] w R :=
 calls_of_eq (an := ⟨[], [], []⟩) (args := [.pointer (some a0), .agg #[.int .i64 a1_0, .int .i64 a1_1, .int .i64 a1_2]]) Tryz.noNG Tryz.mixed Tryz.func131 h (by kernel_rfl)
def queue_Queue_Drop.pre (a0 : Addr) (a1_0 : Int) (a1_1 : Int) (a1_2 : Int) (w : World) (R : Ending → World → Prop) : Prop :=
 ∀ w0 : World, w0 = w.alloc (.cells #[.int .i64 a1_0, .int .i64 a1_1, .int .i64 a1_2] 23) →
 ∃ (m1 : Option Nat), ld w0.drew (padd (some a0) 3) = some (.map m1) ∧
 ∃ (G2 : Value → Prop) (kvs3 : List (Value × Value)), KeyOk Tryz.prog 23 G2 ∧ MapIs G2 w0.drew m1 kvs3 ∧ G2 (.agg #[.int .i64 a1_0, .int .i64 a1_1, .int .i64 a1_2]) ∧ ∃ (x4 : Int), ∃ b5 : Bool, Look kvs3 (.agg #[.int .i64 a1_0, .int .i64 a1_1, .int .i64 a1_2]) (.int .i64 0) (.int .i64 x4) b5 ∧
 Br (!b5)
 (R (.returned (.bool false)) w0.drew)
 (∃ (m6 : Option Nat), ld w0.drew.drew (padd (some a0) 3) = some (.map m6) ∧
 ∃ (G7 : Value → Prop) (kvs8 : List (Value × Value)), KeyOk Tryz.prog 23 G7 ∧ (m6 : Option Nat).isSome = true ∧ MapIs G7 w0.drew.drew m6 kvs8 ∧ G7 (.agg #[.int .i64 a1_0, .int .i64 a1_1, .int .i64 a1_2]) ∧ ∀ w9 : World, Rec ((m6 : Option Nat).getD 0) w0.drew.drew w9 → MapIs G7 w9 m6 (delL kvs8 (.agg #[.int .i64 a1_0, .int .i64 a1_1, .int .i64 a1_2])) →
 ∃ (s10 : Sl), ld w9 (padd (some a0) 2) = some (.slice s10.a s10.n s10.c) ∧
 Calls Tryz.prog n_slices_DeleteFunc_Item #[.slice s10.a s10.n s10.c, .func (.func 178) #[] #[.pointer (some ⟨w.heap.size, 0, none⟩)]] w9 (fun e w11 => ∃ (s12 : Sl), e = .returned (.slice s12.a s12.n s12.c) ∧
 (true = true ∧ Wr w11 (padd (some a0) 2) 1) ∧ (∀ w13 : World, w13 = setP w11 (padd (some a0) 2) [.slice s12.a s12.n s12.c] →
 R (.returned (.bool true)) w13)))
theorem queue_Queue_Drop.vc {a0 a1_0 a1_1 a1_2 w} {R : Ending → World → Prop} (h : queue_Queue_Drop.pre a0 a1_0 a1_1 a1_2 w R) : Calls Tryz.prog n_queue_Queue_Drop #[.pointer (some a0), .agg #[.int .i64 a1_0, .int .i64 a1_1, .int .i64 a1_2]] w R :=
 calls_of_eq (an := ⟨[], [], []⟩) (args := [.pointer (some a0), .agg #[.int .i64 a1_0, .int .i64 a1_1, .int .i64 a1_2]]) Tryz.noNG Tryz.mixed Tryz.func132 h (by kernel_rfl)
def queue_Queue_push.pre (a0 : Addr) (a1_0 : Int) (a1_1 : Int) (a1_2 : Int) (a1_3 : Int) (w : World) (R : Ending → World → Prop) : Prop :=
 ∀ w0 : World, w0 = w.alloc (.cells #[.int .i64 a1_0, .int .i64 a1_1, .int .i64 a1_2, .int .i64 a1_3] 120) →
 ∃ (s1 : Sl), ld w0.drew (padd (some a0) 2) = some (.slice s1.a s1.n s1.c) ∧
 Calls Tryz.prog n_slices_BinarySearchFunc_Item #[.slice s1.a s1.n s1.c, .agg #[.int .i64 a1_0, .int .i64 a1_1, .int .i64 a1_2, .int .i64 a1_3], .func (.func 180) #[] #[]] w0.drew (fun e w2 => ∃ (x3 : Int) (b4 : Bool), e = .returned (.tuple #[.int .i64 x3, .bool b4]) ∧ w2.heap[w.heap.size]? = w0.drew.heap[w.heap.size]? ∧
 ∃ (s5 : Sl), ld w2.drew (padd (some a0) 2) = some (.slice s5.a s5.n s5.c) ∧
 ∀ w6 : World, w6 = w2.drew.alloc (.cells #[.int .i64 a1_0, .int .i64 a1_1, .int .i64 a1_2, .int .i64 a1_3] 120) →
 Calls Tryz.prog n_slices_Insert_Item #[.slice s5.a s5.n s5.c, .int .i64 x3, .slice (some ⟨w2.drew.heap.size, 0, none⟩) 1 1] w6 (fun e w7 => ∃ (s8 : Sl), e = .returned (.slice s8.a s8.n s8.c) ∧ w7.heap[w.heap.size]? = w6.heap[w.heap.size]? ∧
 (true = true ∧ Wr w7 (padd (some a0) 2) 1) ∧ pblk (padd (some a0) 2) ≠ some w.heap.size ∧ (∀ w9 : World, w9 = setP w7 (padd (some a0) 2) [.slice s8.a s8.n s8.c] →
 ∃ (m10 : Option Nat), ld w9.drew (padd (some a0) 3) = some (.map m10) ∧
 ∃ (G11 : Value → Prop) (kvs12 : List (Value × Value)), KeyOk Tryz.prog 23 G11 ∧ (m10 : Option Nat).isSome = true ∧ MapIs G11 w9.drew m10 kvs12 ∧ G11 (.agg #[.int .i64 a1_1, .int .i64 a1_2, .int .i64 a1_3]) ∧ ∀ w13 : World, Rec ((m10 : Option Nat).getD 0) w9.drew w13 → MapIs G11 w13 m10 (insL kvs12 (.agg #[.int .i64 a1_1, .int .i64 a1_2, .int .i64 a1_3]) (.int .i64 a1_0)) →
 R (.returned (.tuple #[])) w13)))
theorem queue_Queue_push.vc {a0 a1_0 a1_1 a1_2 a1_3 w} {R : Ending → World → Prop} (h : queue_Queue_push.pre a0 a1_0 a1_1 a1_2 a1_3 w R) : Calls Tryz.prog n_queue_Queue_push #[.pointer (some a0), .agg #[.int .i64 a1_0, .int .i64 a1_1, .int .i64 a1_2, .int .i64 a1_3]] w R :=
 calls_of_eq (an := ⟨[], [], []⟩) (args := [.pointer (some a0), .agg #[.int .i64 a1_0, .int .i64 a1_1, .int .i64 a1_2, .int .i64 a1_3]]) Tryz.noNG Tryz.mixed Tryz.func133 h (by kernel_rfl)
def slices_Delete_Item.pre (a0 : Sl) (a1 : Int) (a2 : Int) (w : World) (R : Ending → World → Prop) : Prop :=
 (0 : Int) ≤ ((a0.n : Nat) : Int) ∧ ((a0.n : Nat) : Int) ≤ ((a0.c : Nat) : Int) ∧ (0 : Int) ≤ a2 ∧ (a2 : Int) ≤ ((a0.n : Nat) : Int) ∧ (0 : Int) ≤ a1 ∧ (a1 : Int) ≤ a2 ∧ Br ((a1 : Int) == a2)
 (R (.returned (.slice a0.a a0.n a0.c)) w)
 ((0 : Int) ≤ a1 ∧ a1 ≤ ((a0.c : Nat) : Int) ∧ (0 : Int) ≤ a2 ∧ a2 ≤ ((a0.n : Nat) : Int) ∧ ∃ l0 : List Value, Rd w.drew (slBase a0.a ((a2 : Int).toNat) (a0.c) 4) l0 ∧ AppPre 32 4 w.drew ⟨(slBase a0.a (0) (a0.c) 4), ((a1 : Int).toNat - 0), (a0.c - 0)⟩ (a0.n - (a2 : Int).toNat) l0 ∧ ∀ (s1 : Sl) (w2 : World), AppRes 120 4 w.drew ⟨(slBase a0.a (0) (a0.c) 4), ((a1 : Int).toNat - 0), (a0.c - 0)⟩ (a0.n - (a2 : Int).toNat) l0 s1 w2 →
 (0 : Int) ≤ ((a0.n : Nat) : Int) ∧ ((a0.n : Nat) : Int) ≤ ((s1.c : Nat) : Int) ∧ (0 : Int) ≤ ((s1.n : Nat) : Int) ∧ (((s1.n : Nat) : Int) : Int) ≤ ((a0.n : Nat) : Int) ∧ Wr w2 (slBase s1.a ((((s1.n : Nat) : Int) : Int).toNat) (s1.c) 4) (((((a0.n : Nat) : Int) : Int).toNat - (((s1.n : Nat) : Int) : Int).toNat) * 4) ∧ (∀ w3 : World, w3 = setP w2 (slBase s1.a ((((s1.n : Nat) : Int) : Int).toNat) (s1.c) 4) (zeroRows [.int .i64 0, .int .i64 0, .int .i64 0, .int .i64 0] ((((a0.n : Nat) : Int) : Int).toNat - (((s1.n : Nat) : Int) : Int).toNat)) →
 R (.returned (.slice s1.a s1.n s1.c)) w3))
theorem slices_Delete_Item.vc {a0 a1 a2 w} {R : Ending → World → Prop} (h : slices_Delete_Item.pre a0 a1 a2 w R) : Calls Tryz.prog n_slices_Delete_Item #[.slice a0.a a0.n a0.c, .int .i64 a1, .int .i64 a2] w R :=
 calls_of_eq (an := ⟨[], [], []⟩) (args := [.slice a0.a a0.n a0.c, .int .i64 a1, .int .i64 a2]) Tryz.noNG Tryz.mixed Tryz.func90 h (by kernel_rfl)
def queue_Queue_All.pre (a0 : Addr) (w : World) (R : Ending → World → Prop) : Prop :=
 ∃ (s0 : Sl), ld w (padd (some a0) 2) = some (.slice s0.a s0.n s0.c) ∧
 Calls Tryz.prog n_slices_Clone_Item #[.slice s0.a s0.n s0.c] w (fun e w1 => ∃ (s2 : Sl), e = .returned (.slice s2.a s2.n s2.c) ∧
 R (.returned (.slice s2.a s2.n s2.c)) w1)
theorem queue_Queue_All.vc {a0 w} {R : Ending → World → Prop} (h : queue_Queue_All.pre a0 w R) : Calls Tryz.prog n_queue_Queue_All #[.pointer (some a0)] w R :=
 calls_of_eq (an := ⟨[], [], []⟩) (args := [.pointer (some a0)]) Tryz.noNG Tryz.mixed Tryz.func52 h (by kernel_rfl)
def slices_DeleteFunc_Item.pre (a0 : Sl) (a1 : Value) (w : World) (R : Ending → World → Prop) : Prop :=
 Calls Tryz.prog n_slices_IndexFunc_Item #[.slice a0.a a0.n a0.c, a1] w (fun e w0 => ∃ (x1 : Int), e = .returned (.int .i64 x1) ∧
 Br ((x1 : Int) == (-1))
 (R (.returned (.slice a0.a a0.n a0.c)) w0)
 (∃ I2 : Nat → Int → Int → World → Prop,
 (∃ n3, I2 n3 ((IntKind.wrap .i64 (x1 + 1))) (x1) w0) ∧
 ∀ (n3 : Nat) (us4 : Nat → Value) (x5 : Int) (x6 : Int) (w7 : World), I2 n3 x5 x6 w7 →
 Br (decide ((x5 : Int) < ((a0.n : Nat) : Int)))
 (InB a0.a x5 a0.n ∧ ∃ (x9 : Int) (x10 : Int) (x11 : Int) (x12 : Int), LoadL w7 (padd a0.a ((x5 : Int).toNat * 4)) 0 [.int .i64 x9, .int .i64 x10, .int .i64 x11, .int .i64 x12] ∧
 ∀ w13 : World, w13 = w7.alloc (.cells #[.int .i64 0, .int .i64 0, .int .i64 0, .int .i64 0] 120) →
 ∀ w14 : World, w14 = w13.setRow w7.heap.size #[.int .i64 x9, .int .i64 x10, .int .i64 x11, .int .i64 x12] →
 callV Tryz.prog a1 [.agg #[.int .i64 x9, .int .i64 x10, .int .i64 x11, .int .i64 x12]] w14 (fun e w15 => ∃ (b16 : Bool), e = .returned (.bool b16) ∧ w15.heap[w7.heap.size]? = w14.heap[w7.heap.size]? ∧
 Br (!b16)
 (InB a0.a x6 a0.n ∧ (((padd a0.a ((x6 : Int).toNat * 4))).isSome = true ∧ Wr w15 (padd a0.a ((x6 : Int).toNat * 4)) 4) ∧ pblk (padd a0.a ((x6 : Int).toNat * 4)) ≠ some w7.heap.size ∧ (∀ w17 : World, w17 = setP w15 (padd a0.a ((x6 : Int).toNat * 4)) [.int .i64 x9, .int .i64 x10, .int .i64 x11, .int .i64 x12] →
 ∃ n8, n8 < n3 ∧ I2 n8 ((IntKind.wrap .i64 (x5 + 1))) ((IntKind.wrap .i64 (x6 + 1))) w17))
 (∃ n8, n8 < n3 ∧ I2 n8 ((IntKind.wrap .i64 (x5 + 1))) (x6) w15)))
 ((0 : Int) ≤ x6 ∧ x6 ≤ ((a0.n : Nat) : Int) ∧ Wr w7 (slBase a0.a ((x6 : Int).toNat) (a0.c) 4) ((a0.n - (x6 : Int).toNat) * 4) ∧ (∀ w18 : World, w18 = setP w7 (slBase a0.a ((x6 : Int).toNat) (a0.c) 4) (zeroRows [.int .i64 0, .int .i64 0, .int .i64 0, .int .i64 0] (a0.n - (x6 : Int).toNat)) →
 (0 : Int) ≤ x6 ∧ x6 ≤ ((a0.c : Nat) : Int) ∧ R (.returned (.slice (slBase a0.a (0) (a0.c) 4) ((x6 : Int).toNat - 0) (a0.c - 0))) w18))))
theorem slices_DeleteFunc_Item.vc {a0 a1 w} {R : Ending → World → Prop} (h : slices_DeleteFunc_Item.pre a0 a1 w R) : Calls Tryz.prog n_slices_DeleteFunc_Item #[.slice a0.a a0.n a0.c, a1] w R :=
 calls_of_eq (an := ⟨[(5, ⟨[(6, .int .i64), (5, .int .i64)], [], []⟩)], [], []⟩) (args := [.slice a0.a a0.n a0.c, a1]) Tryz.noNG Tryz.mixed Tryz.func177 h (by kernel_rfl)
def queue_Queue_Drop_1.pre (a0_0 : Int) (a0_1 : Int) (a0_2 : Int) (a0_3 : Int) (c0 : Addr) (w : World) (R : Ending → World → Prop) : Prop :=
 ∀ w0 : World, w0 = w.alloc (.cells #[.int .i64 a0_0, .int .i64 a0_1, .int .i64 a0_2, .int .i64 a0_3] 120) →
 ∃ (x1 : Int) (x2 : Int) (x3 : Int), LoadL w0 (some c0) 0 [.int .i64 x1, .int .i64 x2, .int .i64 x3] ∧
 R (.returned (.bool (((a0_1 : Int) == x1) && (((a0_2 : Int) == x2) && ((a0_3 : Int) == x3))))) w0
theorem queue_Queue_Drop_1.vc {a0_0 a0_1 a0_2 a0_3 c0 w} {R : Ending → World → Prop} (h : queue_Queue_Drop_1.pre a0_0 a0_1 a0_2 a0_3 c0 w R) : Calls Tryz.prog n_queue_Queue_Drop_1 #[.agg #[.int .i64 a0_0, .int .i64 a0_1, .int .i64 a0_2, .int .i64 a0_3], .pointer (some c0)] w R :=
 calls_of_eq (an := ⟨[], [], []⟩) (args := [.agg #[.int .i64 a0_0, .int .i64 a0_1, .int .i64 a0_2, .int .i64 a0_3], .pointer (some c0)]) Tryz.noNG Tryz.mixed Tryz.func178 h (by kernel_rfl)
def slices_BinarySearchFunc_Item.pre (a0 : Sl) (a1_0 : Int) (a1_1 : Int) (a1_2 : Int) (a1_3 : Int) (a2 : Value) (w : World) (R : Ending → World → Prop) : Prop :=
 ∀ w0 : World, w0 = w.alloc (.cells #[.int .i64 a1_0, .int .i64 a1_1, .int .i64 a1_2, .int .i64 a1_3] 120) →
 ∃ I1 : Nat → Int → Int → World → Prop,
 (∃ n2, ([.int .i64 a1_0, .int .i64 a1_1, .int .i64 a1_2, .int .i64 a1_3] : List Value) = [.int .i64 a1_0, .int .i64 a1_1, .int .i64 a1_2, .int .i64 a1_3] ∧ I1 n2 (0) (((a0.n : Nat) : Int)) w0) ∧
 ∀ (n2 : Nat) (us3 : Nat → Value) (x4 : Int) (x5 : Int) (w6 : World), I1 n2 x4 x5 w6 →
 Br (decide ((x4 : Int) < x5))
 (InB a0.a (IntKind.wrap .i64 (((IntKind.wrap .u64 (IntKind.wrap .i64 (x4 + x5))) : Int).fdiv (2 ^ (min (1 : Int).toNat 64)))) a0.n ∧ ∃ (x8 : Int) (x9 : Int) (x10 : Int) (x11 : Int), LoadL w6.drew (padd a0.a (((IntKind.wrap .i64 (((IntKind.wrap .u64 (IntKind.wrap .i64 (x4 + x5))) : Int).fdiv (2 ^ (min (1 : Int).toNat 64)))) : Int).toNat * 4)) 0 [.int .i64 x8, .int .i64 x9, .int .i64 x10, .int .i64 x11] ∧
 callV Tryz.prog a2 [.agg #[.int .i64 x8, .int .i64 x9, .int .i64 x10, .int .i64 x11], .agg #[.int .i64 a1_0, .int .i64 a1_1, .int .i64 a1_2, .int .i64 a1_3]] w6.drew (fun e w12 => ∃ (x13 : Int), e = .returned (.int .i64 x13) ∧ w12.heap[w.heap.size]? = w6.drew.heap[w.heap.size]? ∧
 Br (decide ((x13 : Int) < 0))
 (∃ n7, n7 < n2 ∧ ([.int .i64 a1_0, .int .i64 a1_1, .int .i64 a1_2, .int .i64 a1_3] : List Value) = [.int .i64 a1_0, .int .i64 a1_1, .int .i64 a1_2, .int .i64 a1_3] ∧ I1 n7 ((IntKind.wrap .i64 ((IntKind.wrap .i64 (((IntKind.wrap .u64 (IntKind.wrap .i64 (x4 + x5))) : Int).fdiv (2 ^ (min (1 : Int).toNat 64)))) + 1))) (x5) w12)
 (∃ n7, n7 < n2 ∧ ([.int .i64 a1_0, .int .i64 a1_1, .int .i64 a1_2, .int .i64 a1_3] : List Value) = [.int .i64 a1_0, .int .i64 a1_1, .int .i64 a1_2, .int .i64 a1_3] ∧ I1 n7 (x4) ((IntKind.wrap .i64 (((IntKind.wrap .u64 (IntKind.wrap .i64 (x4 + x5))) : Int).fdiv (2 ^ (min (1 : Int).toNat 64))))) w12)))
 (Br (decide ((x4 : Int) < ((a0.n : Nat) : Int)))
 (InB a0.a x4 a0.n ∧ ∃ (x14 : Int) (x15 : Int) (x16 : Int) (x17 : Int), LoadL w6.drew (padd a0.a ((x4 : Int).toNat * 4)) 0 [.int .i64 x14, .int .i64 x15, .int .i64 x16, .int .i64 x17] ∧
 callV Tryz.prog a2 [.agg #[.int .i64 x14, .int .i64 x15, .int .i64 x16, .int .i64 x17], .agg #[.int .i64 a1_0, .int .i64 a1_1, .int .i64 a1_2, .int .i64 a1_3]] w6.drew (fun e w18 => ∃ (x19 : Int), e = .returned (.int .i64 x19) ∧ w18.heap[w.heap.size]? = w6.drew.heap[w.heap.size]? ∧
 R (.returned (.tuple #[.int .i64 x4, .bool ((x19 : Int) == 0)])) w18))
 (R (.returned (.tuple #[.int .i64 x4, .bool false])) w6.drew))
theorem slices_BinarySearchFunc_Item.vc {a0 a1_0 a1_1 a1_2 a1_3 a2 w} {R : Ending → World → Prop} (h : slices_BinarySearchFunc_Item.pre a0 a1_0 a1_1 a1_2 a1_3 a2 w R) : Calls Tryz.prog n_slices_BinarySearchFunc_Item #[.slice a0.a a0.n a0.c, .agg #[.int .i64 a1_0, .int .i64 a1_1, .int .i64 a1_2, .int .i64 a1_3], a2] w R :=
 calls_of_eq (an := ⟨[(3, ⟨[(9, .int .i64), (10, .int .i64)], [], []⟩)], [], []⟩) (args := [.slice a0.a a0.n a0.c, .agg #[.int .i64 a1_0, .int .i64 a1_1, .int .i64 a1_2, .int .i64 a1_3], a2]) Tryz.noNG Tryz.mixed Tryz.func179 h (by kernel_rfl)
def queue_Queue_push_1.pre (a0_0 : Int) (a0_1 : Int) (a0_2 : Int) (a0_3 : Int) (a1_0 : Int) (a1_1 : Int) (a1_2 : Int) (a1_3 : Int) (w : World) (R : Ending → World → Prop) : Prop :=
 ∀ w0 : World, w0 = w.alloc (.cells #[.int .i64 a0_0, .int .i64 a0_1, .int .i64 a0_2, .int .i64 a0_3] 120) →
 ∀ w1 : World, w1 = w0.alloc (.cells #[.int .i64 a1_0, .int .i64 a1_1, .int .i64 a1_2, .int .i64 a1_3] 120) →
 Calls Tryz.prog n_cmp_Compare_int #[.int .i64 a0_0, .int .i64 a1_0] w1 (fun e w2 => ∃ (x3 : Int), e = .returned (.int .i64 x3) ∧ w2.heap[w.heap.size]? = w1.heap[w.heap.size]? ∧ w2.heap[w0.heap.size]? = w1.heap[w0.heap.size]? ∧
 ∀ w4 : World, w4 = w2.alloc (.cells #[.int .i64 x3, .int .i64 (-1)] 3) →
 Calls Tryz.prog n_cmp_Or_int #[.slice (some ⟨w2.heap.size, 0, none⟩) 2 2] w4 (fun e w5 => ∃ (x6 : Int), e = .returned (.int .i64 x6) ∧ w5.heap[w.heap.size]? = w4.heap[w.heap.size]? ∧ w5.heap[w0.heap.size]? = w4.heap[w0.heap.size]? ∧
 R (.returned (.int .i64 x6)) w5))
theorem queue_Queue_push_1.vc {a0_0 a0_1 a0_2 a0_3 a1_0 a1_1 a1_2 a1_3 w} {R : Ending → World → Prop} (h : queue_Queue_push_1.pre a0_0 a0_1 a0_2 a0_3 a1_0 a1_1 a1_2 a1_3 w R) : Calls Tryz.prog n_queue_Queue_push_1 #[.agg #[.int .i64 a0_0, .int .i64 a0_1, .int .i64 a0_2, .int .i64 a0_3], .agg #[.int .i64 a1_0, .int .i64 a1_1, .int .i64 a1_2, .int .i64 a1_3]] w R :=
 calls_of_eq (an := ⟨[], [], []⟩) (args := [.agg #[.int .i64 a0_0, .int .i64 a0_1, .int .i64 a0_2, .int .i64 a0_3], .agg #[.int .i64 a1_0, .int .i64 a1_1, .int .i64 a1_2, .int .i64 a1_3]]) Tryz.noNG Tryz.mixed Tryz.func180 h (by kernel_rfl)
def cmp_Or_int.pre (a0 : Sl) (w : World) (R : Ending → World → Prop) : Prop :=
 ∃ I0 : Nat → Int → World → Prop,
 (∃ n1, I0 n1 (0) w) ∧
 ∀ (n1 : Nat) (us2 : Nat → Value) (x3 : Int) (w4 : World), I0 n1 x3 w4 →
 Br (decide ((x3 : Int) < ((a0.n : Nat) : Int)))
 (InB a0.a x3 a0.n ∧ ∃ (x6 : Int), ld w4 (padd a0.a ((x3 : Int).toNat * 1)) = some (.int .i64 x6) ∧
 Br ((x6 : Int) != 0)
 (R (.returned (.int .i64 x6)) w4)
 (∃ n5, n5 < n1 ∧ I0 n5 ((IntKind.wrap .i64 (x3 + 1))) w4))
 (R (.returned (.int .i64 0)) w4)
theorem cmp_Or_int.vc {a0 w} {R : Ending → World → Prop} (h : cmp_Or_int.pre a0 w R) : Calls Tryz.prog n_cmp_Or_int #[.slice a0.a a0.n a0.c] w R :=
 calls_of_eq (an := ⟨[(3, ⟨[(8, .int .i64)], [], []⟩)], [], []⟩) (args := [.slice a0.a a0.n a0.c]) Tryz.noNG Tryz.mixed Tryz.func181 h (by kernel_rfl)
def cmp_Compare_int.pre (a0 : Int) (a1 : Int) (w : World) (R : Ending → World → Prop) : Prop :=
 Calls Tryz.prog n_cmp_isNaN_int #[.int .i64 a0] w (fun e w0 => ∃ (b1 : Bool), e = .returned (.bool b1) ∧
 Calls Tryz.prog n_cmp_isNaN_int #[.int .i64 a1] w0 (fun e w2 => ∃ (b3 : Bool), e = .returned (.bool b3) ∧
 Br b1
 (Br b3
 (R (.returned (.int .i64 0)) w2)
 (R (.returned (.int .i64 (-1))) w2))
 (Br b3
 (R (.returned (.int .i64 1)) w2)
 (Br (decide ((a0 : Int) < a1))
 (R (.returned (.int .i64 (-1))) w2)
 (Br (decide ((a0 : Int) > a1))
 (R (.returned (.int .i64 1)) w2)
 (R (.returned (.int .i64 0)) w2))))))
theorem cmp_Compare_int.vc {a0 a1 w} {R : Ending → World → Prop} (h : cmp_Compare_int.pre a0 a1 w R) : Calls Tryz.prog n_cmp_Compare_int #[.int .i64 a0, .int .i64 a1] w R :=
 calls_of_eq (an := ⟨[], [], []⟩) (args := [.int .i64 a0, .int .i64 a1]) Tryz.noNG Tryz.mixed Tryz.func182 h (by kernel_rfl)
def slices_Insert_Item.pre (a0 : Sl) (a1 : Int) (a2 : Sl) (w : World) (R : Ending → World → Prop) : Prop :=
 (0 : Int) ≤ a1 ∧ a1 ≤ ((a0.n : Nat) : Int) ∧ Br ((((a2.n : Nat) : Int) : Int) == 0)
 (R (.returned (.slice a0.a a0.n a0.c)) w)
 (Br ((a1 : Int) == ((a0.n : Nat) : Int))
 (∃ l0 : List Value, Rd w a2.a l0 ∧ AppPre 32 4 w ⟨a0.a, a0.n, a0.c⟩ a2.n l0 ∧ ∀ (s1 : Sl) (w2 : World), AppRes 120 4 w ⟨a0.a, a0.n, a0.c⟩ a2.n l0 s1 w2 →
 R (.returned (.slice s1.a s1.n s1.c)) w2)
 (Br (decide (((IntKind.wrap .i64 (((a0.n : Nat) : Int) + ((a2.n : Nat) : Int))) : Int) > ((a0.c : Nat) : Int)))
 ((0 : Int) ≤ a1 ∧ a1 ≤ ((a0.c : Nat) : Int) ∧ ((0 : Int) ≤ (IntKind.wrap .i64 ((IntKind.wrap .i64 (((a0.n : Nat) : Int) + ((a2.n : Nat) : Int))) - a1)) ∧ IntKind.wrap .i64 (IntKind.wrap .i64 ((IntKind.wrap .i64 (((a0.n : Nat) : Int) + ((a2.n : Nat) : Int))) - a1)) = (IntKind.wrap .i64 ((IntKind.wrap .i64 (((a0.n : Nat) : Int) + ((a2.n : Nat) : Int))) - a1)) ∧ ((IntKind.wrap .i64 ((IntKind.wrap .i64 (((a0.n : Nat) : Int) + ((a2.n : Nat) : Int))) - a1)) : Int) * 32 ≤ 281474976710656) ∧ AppPre 32 4 w ⟨(slBase a0.a (0) (a0.c) 4), ((a1 : Int).toNat - 0), (a0.c - 0)⟩ ((IntKind.wrap .i64 ((IntKind.wrap .i64 (((a0.n : Nat) : Int) + ((a2.n : Nat) : Int))) - a1)) : Int).toNat (zeroRows [.int .i64 0, .int .i64 0, .int .i64 0, .int .i64 0] ((IntKind.wrap .i64 ((IntKind.wrap .i64 (((a0.n : Nat) : Int) + ((a2.n : Nat) : Int))) - a1)) : Int).toNat) ∧ ∀ (s3 : Sl) (w4 : World), AppRes 120 4 w ⟨(slBase a0.a (0) (a0.c) 4), ((a1 : Int).toNat - 0), (a0.c - 0)⟩ ((IntKind.wrap .i64 ((IntKind.wrap .i64 (((a0.n : Nat) : Int) + ((a2.n : Nat) : Int))) - a1)) : Int).toNat (zeroRows [.int .i64 0, .int .i64 0, .int .i64 0, .int .i64 0] ((IntKind.wrap .i64 ((IntKind.wrap .i64 (((a0.n : Nat) : Int) + ((a2.n : Nat) : Int))) - a1)) : Int).toNat) s3 w4 →
 (0 : Int) ≤ a1 ∧ a1 ≤ ((s3.n : Nat) : Int) ∧ ∃ l5 : List Value, (l5.length = min a2.n (s3.n - (a1 : Int).toNat) * 4 ∧ Rd w4 a2.a l5 ∧ One l5 ∧ Wr w4 (slBase s3.a ((a1 : Int).toNat) (s3.c) 4) l5.length) ∧ (∀ w6 : World, w6 = setP w4 (slBase s3.a ((a1 : Int).toNat) (s3.c) 4) l5 →
 (0 : Int) ≤ (IntKind.wrap .i64 (a1 + ((a2.n : Nat) : Int))) ∧ (IntKind.wrap .i64 (a1 + ((a2.n : Nat) : Int))) ≤ ((s3.n : Nat) : Int) ∧ (0 : Int) ≤ a1 ∧ a1 ≤ ((a0.n : Nat) : Int) ∧ ∃ l7 : List Value, (l7.length = min (a0.n - (a1 : Int).toNat) (s3.n - ((IntKind.wrap .i64 (a1 + ((a2.n : Nat) : Int))) : Int).toNat) * 4 ∧ Rd w6.drew (slBase a0.a ((a1 : Int).toNat) (a0.c) 4) l7 ∧ One l7 ∧ Wr w6.drew (slBase s3.a (((IntKind.wrap .i64 (a1 + ((a2.n : Nat) : Int))) : Int).toNat) (s3.c) 4) l7.length) ∧ (∀ w8 : World, w8 = setP w6.drew (slBase s3.a (((IntKind.wrap .i64 (a1 + ((a2.n : Nat) : Int))) : Int).toNat) (s3.c) 4) l7 →
 R (.returned (.slice s3.a s3.n s3.c)) w8)))
 ((0 : Int) ≤ (IntKind.wrap .i64 (((a0.n : Nat) : Int) + ((a2.n : Nat) : Int))) ∧ (IntKind.wrap .i64 (((a0.n : Nat) : Int) + ((a2.n : Nat) : Int))) ≤ ((a0.c : Nat) : Int) ∧ (0 : Int) ≤ (IntKind.wrap .i64 (a1 + ((a2.n : Nat) : Int))) ∧ (IntKind.wrap .i64 (a1 + ((a2.n : Nat) : Int))) ≤ (((((IntKind.wrap .i64 (((a0.n : Nat) : Int) + ((a2.n : Nat) : Int))) : Int).toNat - 0) : Nat) : Int) ∧ ExtC Tryz.prog 222 [.slice a2.a a2.n a2.c, .slice (slBase (slBase a0.a (0) (a0.c) 4) (((IntKind.wrap .i64 (a1 + ((a2.n : Nat) : Int))) : Int).toNat) ((a0.c - 0)) 4) ((((IntKind.wrap .i64 (((a0.n : Nat) : Int) + ((a2.n : Nat) : Int))) : Int).toNat - 0) - ((IntKind.wrap .i64 (a1 + ((a2.n : Nat) : Int))) : Int).toNat) ((a0.c - 0) - ((IntKind.wrap .i64 (a1 + ((a2.n : Nat) : Int))) : Int).toNat)] w (fun e w9 => ∃ (b10 : Bool), e = .returned (.bool b10) ∧
 Br (!b10)
 ((0 : Int) ≤ (IntKind.wrap .i64 (a1 + ((a2.n : Nat) : Int))) ∧ (IntKind.wrap .i64 (a1 + ((a2.n : Nat) : Int))) ≤ (((((IntKind.wrap .i64 (((a0.n : Nat) : Int) + ((a2.n : Nat) : Int))) : Int).toNat - 0) : Nat) : Int) ∧ (0 : Int) ≤ a1 ∧ a1 ≤ (((((IntKind.wrap .i64 (((a0.n : Nat) : Int) + ((a2.n : Nat) : Int))) : Int).toNat - 0) : Nat) : Int) ∧ ∃ l11 : List Value, (l11.length = min ((((IntKind.wrap .i64 (((a0.n : Nat) : Int) + ((a2.n : Nat) : Int))) : Int).toNat - 0) - (a1 : Int).toNat) ((((IntKind.wrap .i64 (((a0.n : Nat) : Int) + ((a2.n : Nat) : Int))) : Int).toNat - 0) - ((IntKind.wrap .i64 (a1 + ((a2.n : Nat) : Int))) : Int).toNat) * 4 ∧ Rd w9.drew (slBase (slBase a0.a (0) (a0.c) 4) ((a1 : Int).toNat) ((a0.c - 0)) 4) l11 ∧ One l11 ∧ Wr w9.drew (slBase (slBase a0.a (0) (a0.c) 4) (((IntKind.wrap .i64 (a1 + ((a2.n : Nat) : Int))) : Int).toNat) ((a0.c - 0)) 4) l11.length) ∧ (∀ w12 : World, w12 = setP w9.drew (slBase (slBase a0.a (0) (a0.c) 4) (((IntKind.wrap .i64 (a1 + ((a2.n : Nat) : Int))) : Int).toNat) ((a0.c - 0)) 4) l11 →
 (0 : Int) ≤ a1 ∧ a1 ≤ (((((IntKind.wrap .i64 (((a0.n : Nat) : Int) + ((a2.n : Nat) : Int))) : Int).toNat - 0) : Nat) : Int) ∧ ∃ l13 : List Value, (l13.length = min a2.n ((((IntKind.wrap .i64 (((a0.n : Nat) : Int) + ((a2.n : Nat) : Int))) : Int).toNat - 0) - (a1 : Int).toNat) * 4 ∧ Rd w12 a2.a l13 ∧ One l13 ∧ Wr w12 (slBase (slBase a0.a (0) (a0.c) 4) ((a1 : Int).toNat) ((a0.c - 0)) 4) l13.length) ∧ (∀ w14 : World, w14 = setP w12 (slBase (slBase a0.a (0) (a0.c) 4) ((a1 : Int).toNat) ((a0.c - 0)) 4) l13 →
 R (.returned (.slice (slBase a0.a (0) (a0.c) 4) (((IntKind.wrap .i64 (((a0.n : Nat) : Int) + ((a2.n : Nat) : Int))) : Int).toNat - 0) (a0.c - 0))) w14)))
 ((0 : Int) ≤ ((a0.n : Nat) : Int) ∧ ((a0.n : Nat) : Int) ≤ (((((IntKind.wrap .i64 (((a0.n : Nat) : Int) + ((a2.n : Nat) : Int))) : Int).toNat - 0) : Nat) : Int) ∧ ∃ l15 : List Value, (l15.length = min a2.n ((((IntKind.wrap .i64 (((a0.n : Nat) : Int) + ((a2.n : Nat) : Int))) : Int).toNat - 0) - (((a0.n : Nat) : Int) : Int).toNat) * 4 ∧ Rd w9 a2.a l15 ∧ One l15 ∧ Wr w9 (slBase (slBase a0.a (0) (a0.c) 4) ((((a0.n : Nat) : Int) : Int).toNat) ((a0.c - 0)) 4) l15.length) ∧ (∀ w16 : World, w16 = setP w9 (slBase (slBase a0.a (0) (a0.c) 4) ((((a0.n : Nat) : Int) : Int).toNat) ((a0.c - 0)) 4) l15 →
 (0 : Int) ≤ a1 ∧ a1 ≤ (((((IntKind.wrap .i64 (((a0.n : Nat) : Int) + ((a2.n : Nat) : Int))) : Int).toNat - 0) : Nat) : Int) ∧ Calls Tryz.prog n_slices_rotateRight_Item #[.slice (slBase (slBase a0.a (0) (a0.c) 4) ((a1 : Int).toNat) ((a0.c - 0)) 4) ((((IntKind.wrap .i64 (((a0.n : Nat) : Int) + ((a2.n : Nat) : Int))) : Int).toNat - 0) - (a1 : Int).toNat) ((a0.c - 0) - (a1 : Int).toNat), .int .i64 ((a2.n : Nat) : Int)] w16 (fun e w17 => e = .returned (.tuple #[]) ∧
 R (.returned (.slice (slBase a0.a (0) (a0.c) 4) (((IntKind.wrap .i64 (((a0.n : Nat) : Int) + ((a2.n : Nat) : Int))) : Int).toNat - 0) (a0.c - 0))) w17)))))))
theorem slices_Insert_Item.vc {a0 a1 a2 w} {R : Ending → World → Prop} (h : slices_Insert_Item.pre a0 a1 a2 w R) : Calls Tryz.prog n_slices_Insert_Item #[.slice a0.a a0.n a0.c, .int .i64 a1, .slice a2.a a2.n a2.c] w R :=
 calls_of_eq (an := ⟨[], [], []⟩) (args := [.slice a0.a a0.n a0.c, .int .i64 a1, .slice a2.a a2.n a2.c]) Tryz.noNG Tryz.mixed Tryz.func183 h (by kernel_rfl)
def slices_Clone_Item.pre (a0 : Sl) (w : World) (R : Ending → World → Prop) : Prop :=
 Br (a0.a).isNone
 (R (.returned (.slice none 0 0)) w)
 (∀ w0 : World, w0 = w.alloc (.cells #[] 120) →
 ∃ l1 : List Value, Rd w0 a0.a l1 ∧ AppPre 32 4 w0 ⟨(some ⟨w.heap.size, 0, none⟩), 0, 0⟩ a0.n l1 ∧ ∀ (s2 : Sl) (w3 : World), AppRes 120 4 w0 ⟨(some ⟨w.heap.size, 0, none⟩), 0, 0⟩ a0.n l1 s2 w3 → w3.heap[w.heap.size]? = w0.heap[w.heap.size]? ∧
 R (.returned (.slice s2.a s2.n s2.c)) w3)
theorem slices_Clone_Item.vc {a0 w} {R : Ending → World → Prop} (h : slices_Clone_Item.pre a0 w R) : Calls Tryz.prog n_slices_Clone_Item #[.slice a0.a a0.n a0.c] w R :=
 calls_of_eq (an := ⟨[], [], []⟩) (args := [.slice a0.a a0.n a0.c]) Tryz.noNG Tryz.mixed Tryz.func98 h (by kernel_rfl)
def slices_IndexFunc_Item.pre (a0 : Sl) (a1 : Value) (w : World) (R : Ending → World → Prop) : Prop :=
 ∃ I0 : Nat → Int → World → Prop,
 (∃ n1, I0 n1 (0) w) ∧
 ∀ (n1 : Nat) (us2 : Nat → Value) (x3 : Int) (w4 : World), I0 n1 x3 w4 →
 Br (decide ((x3 : Int) < ((a0.n : Nat) : Int)))
 (InB a0.a x3 a0.n ∧ ∃ (x6 : Int) (x7 : Int) (x8 : Int) (x9 : Int), LoadL w4 (padd a0.a ((x3 : Int).toNat * 4)) 0 [.int .i64 x6, .int .i64 x7, .int .i64 x8, .int .i64 x9] ∧
 callV Tryz.prog a1 [.agg #[.int .i64 x6, .int .i64 x7, .int .i64 x8, .int .i64 x9]] w4 (fun e w10 => ∃ (b11 : Bool), e = .returned (.bool b11) ∧
 Br b11
 (R (.returned (.int .i64 x3)) w10)
 (∃ n5, n5 < n1 ∧ I0 n5 ((IntKind.wrap .i64 (x3 + 1))) w10)))
 (R (.returned (.int .i64 (-1))) w4)
theorem slices_IndexFunc_Item.vc {a0 a1 w} {R : Ending → World → Prop} (h : slices_IndexFunc_Item.pre a0 a1 w R) : Calls Tryz.prog n_slices_IndexFunc_Item #[.slice a0.a a0.n a0.c, a1] w R :=
 calls_of_eq (an := ⟨[(2, ⟨[(8, .int .i64)], [], []⟩)], [], []⟩) (args := [.slice a0.a a0.n a0.c, a1]) Tryz.noNG Tryz.mixed Tryz.func220 h (by kernel_rfl)
def cmp_isNaN_int.pre (a0 : Int) (w : World) (R : Ending → World → Prop) : Prop :=
 R (.returned (.bool ((a0 : Int) != a0))) w
theorem cmp_isNaN_int.vc {a0 w} {R : Ending → World → Prop} (h : cmp_isNaN_int.pre a0 w R) : Calls Tryz.prog n_cmp_isNaN_int #[.int .i64 a0] w R :=
 calls_of_eq (an := ⟨[], [], []⟩) (args := [.int .i64 a0]) Tryz.noNG Tryz.mixed Tryz.func221 h (by kernel_rfl)
end Go.Proofs.YtalpkjfpmdpbiaaGreatDoor
