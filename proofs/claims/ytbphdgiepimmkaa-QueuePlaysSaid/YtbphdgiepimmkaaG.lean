import Derived.Test.YtbphdgiepimmkaaChecked
import Derived.KernelRfl
import Derived.Test.YtbphdgiepimmkaaLib
set_option linter.all false
namespace Go.Proofs.Ytbphdgiepimmkaa
open Go Go.Vc Go.RowKit Go.Proofs
set_option maxRecDepth 100000
set_option maxHeartbeats 8000000
set_option linter.unusedVariables false
theorem Try.noNG : NoNG Try.prog := ngB_ok (by kernel_rfl)
theorem Try.mixed : Try.prog.follows .mixedOrders = true := by kernel_rfl
abbrev n_law17_QueueOnce : FuncId := 3
abbrev n_law17_QueueSplit : FuncId := 4
abbrev n_law17_QueueRoom : FuncId := 5
abbrev n_law17_QueuePlays : FuncId := 6
abbrev n_ref01_Around : FuncId := 7
abbrev n_queue_New : FuncId := 8
abbrev n_queue_Queue_Add : FuncId := 9
abbrev n_queue_Queue_Due : FuncId := 10
abbrev n_queue_Queue_Len : FuncId := 11
abbrev n_law17_lives : FuncId := 12
abbrev n_ref17_SameCells : FuncId := 13
abbrev n_queue_Queue_Next : FuncId := 14
abbrev n_queue_Queue_Lost : FuncId := 15
abbrev n_ref17_New : FuncId := 16
abbrev n_law17_does : FuncId := 17
abbrev n_law17_like : FuncId := 18
abbrev n_queue_Queue_At : FuncId := 19
abbrev n_queue_Queue_Drop : FuncId := 20
abbrev n_queue_Queue_push : FuncId := 21
abbrev n_slices_Delete_Item : FuncId := 22
abbrev n_law17_small : FuncId := 23
abbrev n_ref17_Add : FuncId := 24
abbrev n_ref17_Due : FuncId := 25
abbrev n_ref17_Drop : FuncId := 26
abbrev n_queue_Queue_Put : FuncId := 27
abbrev n_queue_Queue_All : FuncId := 28
abbrev n_slices_DeleteFunc_Item : FuncId := 29
abbrev n_queue_Queue_Drop_1 : FuncId := 30
abbrev n_slices_BinarySearchFunc_Item : FuncId := 31
abbrev n_queue_Queue_push_1 : FuncId := 32
abbrev n_cmp_Or_int : FuncId := 33
abbrev n_cmp_Compare_int : FuncId := 34
abbrev n_slices_Insert_Item : FuncId := 35
abbrev n_ref17_Find : FuncId := 36
abbrev n_slices_Clone_Item : FuncId := 37
abbrev n_slices_IndexFunc_Item : FuncId := 38
abbrev n_cmp_isNaN_int : FuncId := 39
abbrev n_slices_rotateRight_Item : FuncId := 41
abbrev n_slices_rotateLeft_Item : FuncId := 42
abbrev n_slices_Reverse_Item : FuncId := 43
/- breccia/breccialaw17.QueueOnce  -/
def law17_QueueOnce.pre (a0 : Sl) (a1 : Int) (w : World) (R : Ending → World → Prop) : Prop :=
 Calls Try.prog n_ref01_Around #[.int .i64 a1, .int .i64 10] w (fun e w0 => ∃ (x1 : Int), e = .returned (.int .i64 x1) ∧ 
 Calls Try.prog n_queue_New #[.int .i64 100] w0 (fun e w2 => ∃ (p3 : Option Addr), e = .returned (.pointer p3) ∧ 
 Br (p3).isNone
 (R (.returned (.bool false)) w2)
 (((0 : Int) ≤ 30 ∧ (30 : Int) ≤ 30 ∧ (30 : Int) ≤ 140737488355328 ∧ (30 : Int) * 8 ≤ 140737488355328) ∧ (∀ w4 : World, w4 = w2.alloc (.cells (zeroRows [.int .i64 0] (30 : Int).toNat).toArray 3) →
 ∃ I5 : Nat → Int → World → Prop,
 (∃ n6, I5 n6 (0) w4) ∧
 ∀ (n6 : Nat) (us7 : Nat → Value) (x8 : Int) (w9 : World), I5 n6 x8 w9 →
 Br (decide ((x8 : Int) < (if 30 < ((a0.n : Nat) : Int) then 30 else ((a0.n : Nat) : Int))))
 (InB a0.a x8 a0.n ∧ ∃ (x11 : Int), ld w9 (padd a0.a ((x8 : Int).toNat * 1)) = some (.int .i64 x11) ∧
 Calls Try.prog n_ref01_Around #[.int .i64 x11, .int .i64 40] w9 (fun e w12 => ∃ (x13 : Int), e = .returned (.int .i64 x13) ∧ 
 Calls Try.prog n_queue_Queue_Add #[.pointer p3, .agg #[.int .i64 x8, .int .i64 0, .int .i64 0], .int .i64 x13] w12 (fun e w14 => ∃ (b15 : Bool), e = .returned (.bool b15) ∧ 
 Br (!b15)
 (R (.returned (.bool false)) w14)
 (∃ n10, n10 < n6 ∧ I5 n10 ((IntKind.wrap .i64 (x8 + 1))) w14))))
 (∃ I16 : Nat → Int → Int → World → Prop,
 (∃ n17, I16 n17 (0) ((-1)) w9) ∧
 ∀ (n17 : Nat) (us18 : Nat → Value) (x19 : Int) (x20 : Int) (w21 : World), I16 n17 x19 x20 w21 →
 Br (decide ((x19 : Int) < 80))
 (Calls Try.prog n_queue_Queue_Due #[.pointer p3, .int .i64 x19, .int .i64 (IntKind.wrap .i64 (1 + x1))] w21 (fun e w23 => ∃ (s24 : Sl), e = .returned (.slice s24.a s24.n s24.c) ∧ 
 Br (decide ((((s24.n : Nat) : Int) : Int) > (IntKind.wrap .i64 (1 + x1))))
 (R (.returned (.bool false)) w23)
 (∃ I25 : Nat → Int → Int → World → Prop,
 (∃ n26, I25 n26 (0) (x20) w23) ∧
 ∀ (n26 : Nat) (us27 : Nat → Value) (x28 : Int) (x29 : Int) (w30 : World), I25 n26 x28 x29 w30 →
 Br (decide ((x28 : Int) < ((s24.n : Nat) : Int)))
 (InB s24.a x28 s24.n ∧ AndL (nnC (padd s24.a ((x28 : Int).toNat * 3))) (∃ (x32 : Int), ld w30 (padd (padd s24.a ((x28 : Int).toNat * 3)) 0) = some (.int .i64 x32) ∧
 Br (decide ((x32 : Int) < 0))
 (R (.returned (.bool false)) w30)
 (Br (decide ((x32 : Int) ≥ (if 30 < ((a0.n : Nat) : Int) then 30 else ((a0.n : Nat) : Int))))
 (R (.returned (.bool false)) w30)
 (InB a0.a x32 a0.n ∧ ∃ (x33 : Int), ld w30 (padd a0.a ((x32 : Int).toNat * 1)) = some (.int .i64 x33) ∧
 Calls Try.prog n_ref01_Around #[.int .i64 x33, .int .i64 40] w30 (fun e w34 => ∃ (x35 : Int), e = .returned (.int .i64 x35) ∧ 
 Br (decide ((x35 : Int) > x19))
 (R (.returned (.bool false)) w34)
 (InB a0.a x32 a0.n ∧ ∃ (x36 : Int), ld w34 (padd a0.a ((x32 : Int).toNat * 1)) = some (.int .i64 x36) ∧
 Calls Try.prog n_ref01_Around #[.int .i64 x36, .int .i64 40] w34 (fun e w37 => ∃ (x38 : Int), e = .returned (.int .i64 x38) ∧ 
 Br (decide ((x38 : Int) < x29))
 (R (.returned (.bool false)) w37)
 (InB a0.a x32 a0.n ∧ ∃ (x39 : Int), ld w37 (padd a0.a ((x32 : Int).toNat * 1)) = some (.int .i64 x39) ∧
 Calls Try.prog n_ref01_Around #[.int .i64 x39, .int .i64 40] w37 (fun e w40 => ∃ (x41 : Int), e = .returned (.int .i64 x41) ∧ 
 InB (some ⟨w2.heap.size, 0, none⟩) x32 (30 : Int).toNat ∧ ∃ (x42 : Int), ld w40 (padd (some ⟨w2.heap.size, 0, none⟩) ((x32 : Int).toNat * 1)) = some (.int .i64 x42) ∧
 InB (some ⟨w2.heap.size, 0, none⟩) x32 (30 : Int).toNat ∧ (((padd (some ⟨w2.heap.size, 0, none⟩) ((x32 : Int).toNat * 1))).isSome = true ∧ Wr w40 (padd (some ⟨w2.heap.size, 0, none⟩) ((x32 : Int).toNat * 1)) 1) ∧ (∀ w43 : World, w43 = setP w40 (padd (some ⟨w2.heap.size, 0, none⟩) ((x32 : Int).toNat * 1)) [.int .i64 (IntKind.wrap .i64 (x42 + 1))] →
 ∃ n31, n31 < n26 ∧ I25 n31 ((IntKind.wrap .i64 (x28 + 1))) (x41) w43))))))))))
 (∃ n22, n22 < n17 ∧ I16 n22 ((IntKind.wrap .i64 (x19 + 1))) (x29) w30))))
 (∃ I44 : Nat → Int → World → Prop,
 (∃ n45, I44 n45 (0) w21) ∧
 ∀ (n45 : Nat) (us46 : Nat → Value) (x47 : Int) (w48 : World), I44 n45 x47 w48 →
 Br (decide ((x47 : Int) < (if 30 < ((a0.n : Nat) : Int) then 30 else ((a0.n : Nat) : Int))))
 (InB (some ⟨w2.heap.size, 0, none⟩) x47 (30 : Int).toNat ∧ ∃ (x50 : Int), ld w48 (padd (some ⟨w2.heap.size, 0, none⟩) ((x47 : Int).toNat * 1)) = some (.int .i64 x50) ∧
 Br ((x50 : Int) != 1)
 (R (.returned (.bool false)) w48)
 (∃ n49, n49 < n45 ∧ I44 n49 ((IntKind.wrap .i64 (x47 + 1))) w48))
 (Calls Try.prog n_queue_Queue_Len #[.pointer p3] w48 (fun e w51 => ∃ (x52 : Int), e = .returned (.int .i64 x52) ∧ 
 Br ((x52 : Int) == 0)
 (Calls Try.prog n_law17_lives #[] w51 (fun e w53 => ∃ (b54 : Bool), e = .returned (.bool b54) ∧ 
 R (.returned (.bool b54)) w53))
 (R (.returned (.bool false)) w51)))))))))
theorem law17_QueueOnce.vc {a0 a1 w} {R : Ending → World → Prop} (h : law17_QueueOnce.pre a0 a1 w R) : Calls Try.prog n_law17_QueueOnce #[.slice a0.a a0.n a0.c, .int .i64 a1] w R :=
  calls_of_eq (an := ⟨[(20, ⟨[(12, .int .i64), (9, .int .i64)], [], []⟩), (28, ⟨[(14, .int .i64)], [], []⟩), (14, ⟨[(10, .int .i64), (9, .int .i64)], [], []⟩), (8, ⟨[(8, .int .i64)], [], []⟩)], [], []⟩) (args := [.slice a0.a a0.n a0.c, .int .i64 a1]) Try.noNG Try.mixed Try.func3 h (by kernel_rfl)

/- breccia/breccialaw17.QueueSplit  -/
def law17_QueueSplit.pre (a0 : Sl) (a1 : Int) (w : World) (R : Ending → World → Prop) : Prop :=
 Calls Try.prog n_ref01_Around #[.int .i64 a1, .int .i64 8] w (fun e w0 => ∃ (x1 : Int), e = .returned (.int .i64 x1) ∧ 
 Calls Try.prog n_queue_New #[.int .i64 100] w0 (fun e w2 => ∃ (p3 : Option Addr), e = .returned (.pointer p3) ∧ 
 Calls Try.prog n_queue_New #[.int .i64 100] w2 (fun e w4 => ∃ (p5 : Option Addr), e = .returned (.pointer p5) ∧ 
 Br (p3).isNone
 (R (.returned (.bool false)) w4)
 (Br (p5).isNone
 (R (.returned (.bool false)) w4)
 (∃ I6 : Nat → Int → World → Prop,
 (∃ n7, I6 n7 (0) w4) ∧
 ∀ (n7 : Nat) (us8 : Nat → Value) (x9 : Int) (w10 : World), I6 n7 x9 w10 →
 Br (decide ((x9 : Int) < (if 25 < ((a0.n : Nat) : Int) then 25 else ((a0.n : Nat) : Int))))
 (InB a0.a x9 a0.n ∧ ∃ (x12 : Int), ld w10 (padd a0.a ((x9 : Int).toNat * 1)) = some (.int .i64 x12) ∧
 Calls Try.prog n_ref01_Around #[.int .i64 x12, .int .i64 10] w10 (fun e w13 => ∃ (x14 : Int), e = .returned (.int .i64 x14) ∧ 
 Calls Try.prog n_queue_Queue_Add #[.pointer p3, .agg #[.int .i64 x9, .int .i64 0, .int .i64 0], .int .i64 x14] w13 (fun e w15 => ∃ (b16 : Bool), e = .returned (.bool b16) ∧ 
 InB a0.a x9 a0.n ∧ ∃ (x17 : Int), ld w15 (padd a0.a ((x9 : Int).toNat * 1)) = some (.int .i64 x17) ∧
 Calls Try.prog n_ref01_Around #[.int .i64 x17, .int .i64 10] w15 (fun e w18 => ∃ (x19 : Int), e = .returned (.int .i64 x19) ∧ 
 Calls Try.prog n_queue_Queue_Add #[.pointer p5, .agg #[.int .i64 x9, .int .i64 0, .int .i64 0], .int .i64 x19] w18 (fun e w20 => ∃ (b21 : Bool), e = .returned (.bool b21) ∧ 
 ∃ n11, n11 < n7 ∧ I6 n11 ((IntKind.wrap .i64 (x9 + 1))) w20)))))
 (Calls Try.prog n_queue_Queue_Due #[.pointer p3, .int .i64 9, .int .i64 100] w10 (fun e w22 => ∃ (s23 : Sl), e = .returned (.slice s23.a s23.n s23.c) ∧ 
 ∃ I24 : Nat → Int → Sl → World → Prop,
 (∃ n25, I24 n25 (0) ⟨none, 0, 0⟩ w22) ∧
 ∀ (n25 : Nat) (us26 : Nat → Value) (x27 : Int) (s28 : Sl) (w29 : World), I24 n25 x27 s28 w29 →
 Br (decide ((x27 : Int) < 30))
 (Calls Try.prog n_queue_Queue_Due #[.pointer p5, .int .i64 9, .int .i64 (IntKind.wrap .i64 (1 + x1))] w29 (fun e w31 => ∃ (s32 : Sl), e = .returned (.slice s32.a s32.n s32.c) ∧ 
 ∃ l33 : List Value, Rd w31 s32.a l33 ∧ AppPre 24 3 w31 ⟨s28.a, s28.n, s28.c⟩ s32.n l33 ∧ ∀ (s34 : Sl) (w35 : World), AppRes 28 3 w31 ⟨s28.a, s28.n, s28.c⟩ s32.n l33 s34 w35 → 
 ∃ n30, n30 < n25 ∧ I24 n30 ((IntKind.wrap .i64 (x27 + 1))) ⟨s34.a, s34.n, s34.c⟩ w35))
 (Br ((((s23.n : Nat) : Int) : Int) == (if 25 < ((a0.n : Nat) : Int) then 25 else ((a0.n : Nat) : Int)))
 (Calls Try.prog n_ref17_SameCells #[.slice s23.a s23.n s23.c, .slice s28.a s28.n s28.c] w29 (fun e w36 => ∃ (b37 : Bool), e = .returned (.bool b37) ∧ 
 Br b37
 (Calls Try.prog n_queue_Queue_Len #[.pointer p3] w36 (fun e w38 => ∃ (x39 : Int), e = .returned (.int .i64 x39) ∧ 
 Br ((x39 : Int) == 0)
 (Calls Try.prog n_queue_Queue_Len #[.pointer p5] w38 (fun e w40 => ∃ (x41 : Int), e = .returned (.int .i64 x41) ∧ 
 Br ((x41 : Int) == 0)
 (Calls Try.prog n_law17_lives #[] w40 (fun e w42 => ∃ (b43 : Bool), e = .returned (.bool b43) ∧ 
 R (.returned (.bool b43)) w42))
 (R (.returned (.bool false)) w40)))
 (R (.returned (.bool false)) w38)))
 (R (.returned (.bool false)) w36)))
 (R (.returned (.bool false)) w29)))))))))
theorem law17_QueueSplit.vc {a0 a1 w} {R : Ending → World → Prop} (h : law17_QueueSplit.pre a0 a1 w R) : Calls Try.prog n_law17_QueueSplit #[.slice a0.a a0.n a0.c, .int .i64 a1] w R :=
  calls_of_eq (an := ⟨[(15, ⟨[(11, .int .i64), (10, .slice)], [], []⟩), (8, ⟨[(8, .int .i64)], [], []⟩)], [], []⟩) (args := [.slice a0.a a0.n a0.c, .int .i64 a1]) Try.noNG Try.mixed Try.func4 h (by kernel_rfl)

/- breccia/breccialaw17.QueueRoom  -/
def law17_QueueRoom.pre (a0 : Int) (a1 : Int) (w : World) (R : Ending → World → Prop) : Prop :=
 Calls Try.prog n_ref01_Around #[.int .i64 a1, .int .i64 81] w (fun e w0 => ∃ (x1 : Int), e = .returned (.int .i64 x1) ∧ 
 Calls Try.prog n_queue_New #[.int .i64 (if 50 < a0 then 50 else a0)] w0 (fun e w2 => ∃ (p3 : Option Addr), e = .returned (.pointer p3) ∧ 
 Br (p3).isNone
 (R (.returned (.bool false)) w2)
 (∃ I4 : Nat → Int → World → Prop,
 (∃ n5, I4 n5 (0) w2) ∧
 ∀ (n5 : Nat) (us6 : Nat → Value) (x7 : Int) (w8 : World), I4 n5 x7 w8 →
 Br (decide ((x7 : Int) < x1))
 (Calls Try.prog n_queue_Queue_Add #[.pointer p3, .agg #[.int .i64 0, .int .i64 0, .int .i64 x7], .int .i64 (IntKind.wrap .i64 (0 - x7))] w8 (fun e w10 => ∃ (b11 : Bool), e = .returned (.bool b11) ∧ 
 Br (!(b11 == (decide ((x7 : Int) < (if 1 > (if 50 < a0 then 50 else a0) then 1 else (if 50 < a0 then 50 else a0))))))
 (R (.returned (.bool false)) w10)
 (∃ n9, n9 < n5 ∧ I4 n9 ((IntKind.wrap .i64 (x7 + 1))) w10)))
 (Calls Try.prog n_queue_Queue_Next #[.pointer p3] w8 (fun e w12 => ∃ (x13 : Int) (x14 : Int) (x15 : Int) (x16 : Int) (b17 : Bool), e = .returned (.tuple #[.agg #[.int .i64 x13, .int .i64 x14, .int .i64 x15, .int .i64 x16], .bool b17]) ∧ 
 ∀ w18 : World, w18 = w12.alloc (.cells #[.int .i64 0, .int .i64 0, .int .i64 0, .int .i64 0] 36) →
 ∀ w19 : World, w19 = w18.setRow w12.heap.size #[.int .i64 x13, .int .i64 x14, .int .i64 x15, .int .i64 x16] →
 Calls Try.prog n_queue_Queue_Len #[.pointer p3] w19 (fun e w20 => ∃ (x21 : Int), e = .returned (.int .i64 x21) ∧ w20.heap[w12.heap.size]? = w19.heap[w12.heap.size]? ∧ 
 Br ((x21 : Int) == (if (if 1 > (if 50 < a0 then 50 else a0) then 1 else (if 50 < a0 then 50 else a0)) < x1 then (if 1 > (if 50 < a0 then 50 else a0) then 1 else (if 50 < a0 then 50 else a0)) else x1))
 (Calls Try.prog n_queue_Queue_Lost #[.pointer p3] w20 (fun e w22 => ∃ (x23 : Int), e = .returned (.int .i64 x23) ∧ w22.heap[w12.heap.size]? = w20.heap[w12.heap.size]? ∧ 
 Br ((x23 : Int) == (if 0 > (IntKind.wrap .i64 (x1 - (if 1 > (if 50 < a0 then 50 else a0) then 1 else (if 50 < a0 then 50 else a0)))) then 0 else (IntKind.wrap .i64 (x1 - (if 1 > (if 50 < a0 then 50 else a0) then 1 else (if 50 < a0 then 50 else a0))))))
 (Br (b17 == (decide ((x1 : Int) > 0)))
 (Br (!b17)
 (Calls Try.prog n_law17_lives #[] w22 (fun e w24 => ∃ (b25 : Bool), e = .returned (.bool b25) ∧ w24.heap[w12.heap.size]? = w22.heap[w12.heap.size]? ∧ 
 R (.returned (.bool b25)) w24))
 (Br ((x13 : Int) == (IntKind.wrap .i64 (1 - (if (if 1 > (if 50 < a0 then 50 else a0) then 1 else (if 50 < a0 then 50 else a0)) < x1 then (if 1 > (if 50 < a0 then 50 else a0) then 1 else (if 50 < a0 then 50 else a0)) else x1))))
 (Calls Try.prog n_law17_lives #[] w22 (fun e w26 => ∃ (b27 : Bool), e = .returned (.bool b27) ∧ w26.heap[w12.heap.size]? = w22.heap[w12.heap.size]? ∧ 
 R (.returned (.bool b27)) w26))
 (R (.returned (.bool false)) w22)))
 (R (.returned (.bool false)) w22))
 (R (.returned (.bool false)) w22)))
 (R (.returned (.bool false)) w20)))))))
theorem law17_QueueRoom.vc {a0 a1 w} {R : Ending → World → Prop} (h : law17_QueueRoom.pre a0 a1 w R) : Calls Try.prog n_law17_QueueRoom #[.int .i64 a0, .int .i64 a1] w R :=
  calls_of_eq (an := ⟨[(8, ⟨[(7, .int .i64)], [], []⟩)], [], []⟩) (args := [.int .i64 a0, .int .i64 a1]) Try.noNG Try.mixed Try.func5 h (by kernel_rfl)

/- breccia/breccialaw17.QueuePlays  -/
def law17_QueuePlays.pre (a0 : Int) (a1 : Sl) (w : World) (R : Ending → World → Prop) : Prop :=
 Calls Try.prog n_queue_New #[.int .i64 a0] w (fun e w0 => ∃ (p1 : Option Addr), e = .returned (.pointer p1) ∧ 
 Br (p1).isNone
 (R (.returned (.bool false)) w0)
 (Calls Try.prog n_ref17_New #[.int .i64 a0] w0 (fun e w2 => ∃ (x3 : Int) (x4 : Int) (s5 : Sl), e = .returned (.agg #[.int .i64 x3, .int .i64 x4, .slice s5.a s5.n s5.c]) ∧ 
 ∀ w6 : World, w6 = w2.alloc (.cells #[.int .i64 0, .int .i64 0, .slice none 0 0] 43) →
 ∀ w7 : World, w7 = w6.setRow w2.heap.size #[.int .i64 x3, .int .i64 x4, .slice s5.a s5.n s5.c] →
 ∃ I8 : Nat → Int → Int → Int → Sl → World → Prop,
 (∃ n9, I8 n9 (0) (x3) (x4) ⟨s5.a, s5.n, s5.c⟩ w7) ∧
 ∀ (n9 : Nat) (us10 : Nat → Value) (x11 : Int) (x12 : Int) (x13 : Int) (s14 : Sl) (w15 : World), I8 n9 x11 x12 x13 s14 w15 →
 Br (decide ((x11 : Int) < ((a1.n : Nat) : Int)))
 (Br (decide ((x11 : Int) < 60))
 (InB a1.a x11 a1.n ∧ ∃ (x17 : Int) (x18 : Int) (x19 : Int) (x20 : Int) (x21 : Int) (x22 : Int), LoadL w15.drew (padd a1.a ((x11 : Int).toNat * 6)) 0 [.int .i64 x17, .int .i64 x18, .int .i64 x19, .int .i64 x20, .int .i64 x21, .int .i64 x22] ∧
 (Calls Try.prog n_law17_does #[.pointer p1, .agg #[.int .i64 x12, .int .i64 x13, .slice s14.a s14.n s14.c], .agg #[.int .i64 x17, .int .i64 x18, .int .i64 x19, .int .i64 x20, .int .i64 x21, .int .i64 x22]] w15.drew (fun e w23 => ∃ (x24 : Int) (x25 : Int) (s26 : Sl) (b27 : Bool), e = .returned (.tuple #[.agg #[.int .i64 x24, .int .i64 x25, .slice s26.a s26.n s26.c], .bool b27]) ∧ w23.heap[w2.heap.size]? = w15.drew.heap[w2.heap.size]? ∧ 
 ∀ w28 : World, w28 = w23.alloc (.cells #[.int .i64 0, .int .i64 0, .slice none 0 0] 43) →
 ∀ w29 : World, w29 = w28.setRow w23.heap.size #[.int .i64 x24, .int .i64 x25, .slice s26.a s26.n s26.c] →
 ∀ w30 : World, w30 = w29.setRow w2.heap.size #[.int .i64 x24, .int .i64 x25, .slice s26.a s26.n s26.c] →
 Br (!b27)
 (R (.returned (.bool false)) w30)
 (Calls Try.prog n_law17_like #[.pointer p1, .agg #[.int .i64 x24, .int .i64 x25, .slice s26.a s26.n s26.c]] w30 (fun e w31 => ∃ (b32 : Bool), e = .returned (.bool b32) ∧ w31.heap[w2.heap.size]? = w30.heap[w2.heap.size]? ∧ w31.heap[w23.heap.size]? = w30.heap[w23.heap.size]? ∧ 
 Br (!b32)
 (R (.returned (.bool false)) w31)
 (∃ n16, n16 < n9 ∧ I8 n16 ((IntKind.wrap .i64 (x11 + 1))) (x24) (x25) ⟨s26.a, s26.n, s26.c⟩ w31))))) ∧ (∀ w33 : World, w33 = w15.drew.alloc (.cells #[.int .i64 0, .int .i64 0, .slice none 0 0] 43) →
 Calls Try.prog n_law17_does #[.pointer p1, .agg #[.int .i64 x12, .int .i64 x13, .slice s14.a s14.n s14.c], .agg #[.int .i64 x17, .int .i64 x18, .int .i64 x19, .int .i64 x20, .int .i64 x21, .int .i64 x22]] w33 (fun e w34 => ∃ (x35 : Int) (x36 : Int) (s37 : Sl) (b38 : Bool), e = .returned (.tuple #[.agg #[.int .i64 x35, .int .i64 x36, .slice s37.a s37.n s37.c], .bool b38]) ∧ w34.heap[w2.heap.size]? = w33.heap[w2.heap.size]? ∧ w34.heap[w15.drew.heap.size]? = w33.heap[w15.drew.heap.size]? ∧ 
 ∀ w39 : World, w39 = w34.setRow w15.drew.heap.size #[.int .i64 x35, .int .i64 x36, .slice s37.a s37.n s37.c] →
 ∀ w40 : World, w40 = w39.setRow w2.heap.size #[.int .i64 x35, .int .i64 x36, .slice s37.a s37.n s37.c] →
 Br (!b38)
 (R (.returned (.bool false)) w40)
 (Calls Try.prog n_law17_like #[.pointer p1, .agg #[.int .i64 x35, .int .i64 x36, .slice s37.a s37.n s37.c]] w40 (fun e w41 => ∃ (b42 : Bool), e = .returned (.bool b42) ∧ w41.heap[w2.heap.size]? = w40.heap[w2.heap.size]? ∧ w41.heap[w15.drew.heap.size]? = w40.heap[w15.drew.heap.size]? ∧ 
 Br (!b42)
 (R (.returned (.bool false)) w41)
 (∃ n16, n16 < n9 ∧ I8 n16 ((IntKind.wrap .i64 (x11 + 1))) (x35) (x36) ⟨s37.a, s37.n, s37.c⟩ w41))))))
 (Calls Try.prog n_law17_lives #[] w15 (fun e w43 => ∃ (b44 : Bool), e = .returned (.bool b44) ∧ w43.heap[w2.heap.size]? = w15.heap[w2.heap.size]? ∧ 
 R (.returned (.bool b44)) w43)))
 (Calls Try.prog n_law17_lives #[] w15 (fun e w45 => ∃ (b46 : Bool), e = .returned (.bool b46) ∧ w45.heap[w2.heap.size]? = w15.heap[w2.heap.size]? ∧ 
 R (.returned (.bool b46)) w45)))))
theorem law17_QueuePlays.vc {a0 a1 w} {R : Ending → World → Prop} (h : law17_QueuePlays.pre a0 a1 w R) : Calls Try.prog n_law17_QueuePlays #[.int .i64 a0, .slice a1.a a1.n a1.c] w R :=
  calls_of_eq (an := ⟨[(6, ⟨[(7, .int .i64)], [(0, [.int .i64, .int .i64, .slice])], []⟩)], [], []⟩) (args := [.int .i64 a0, .slice a1.a a1.n a1.c]) Try.noNG Try.mixed Try.func6 h (by kernel_rfl)

/- breccia/brecciaref01.Around  -/
def ref01_Around.pre (a0 : Int) (a1 : Int) (w : World) (R : Ending → World → Prop) : Prop :=
 Br (decide ((a0 : Int) < 0))
 (AndL (nzC a1) (R (.returned (.int .i64 (Int.tmod (IntKind.wrap .i64 (0 - (IntKind.wrap .i64 (a0 + 1)))) a1))) w))
 (AndL (nzC a1) (R (.returned (.int .i64 (Int.tmod a0 a1))) w))
theorem ref01_Around.vc {a0 a1 w} {R : Ending → World → Prop} (h : ref01_Around.pre a0 a1 w R) : Calls Try.prog n_ref01_Around #[.int .i64 a0, .int .i64 a1] w R :=
  calls_of_eq (an := ⟨[], [], []⟩) (args := [.int .i64 a0, .int .i64 a1]) Try.noNG Try.mixed Try.func7 h (by kernel_rfl)

/- breccia/queue.New  -/
def queue_New.pre (a0 : Int) (w : World) (R : Ending → World → Prop) : Prop :=
 ∀ w0 : World, w0 = w.alloc (.map #[] 0) →
 ∀ w1 : World, w1 = w0.alloc (.cells #[.int .i64 (if 4096 < (if 1 > a0 then 1 else a0) then 4096 else (if 1 > a0 then 1 else a0)), .int .i64 0, .slice none 0 0, .map (some w.heap.size)] 54) →
 R (.returned (.pointer (some ⟨w0.heap.size, 0, none⟩))) w1
theorem queue_New.vc {a0 w} {R : Ending → World → Prop} (h : queue_New.pre a0 w R) : Calls Try.prog n_queue_New #[.int .i64 a0] w R :=
  calls_of_eq (an := ⟨[], [], []⟩) (args := [.int .i64 a0]) Try.noNG Try.mixed Try.func8 h (by kernel_rfl)

/- (*breccia/queue.Queue).Add  -/
def queue_Queue_Add.pre (a0 : Addr) (a1_0 : Int) (a1_1 : Int) (a1_2 : Int) (a2 : Int) (w : World) (R : Ending → World → Prop) : Prop :=
 ∀ w0 : World, w0 = w.alloc (.cells #[.int .i64 a1_0, .int .i64 a1_1, .int .i64 a1_2] 28) →
 Calls Try.prog n_queue_Queue_At #[.pointer (some a0), .agg #[.int .i64 a1_0, .int .i64 a1_1, .int .i64 a1_2]] w0 (fun e w1 => ∃ (x2 : Int) (b3 : Bool), e = .returned (.tuple #[.int .i64 x2, .bool b3]) ∧ w1.heap[w.heap.size]? = w0.heap[w.heap.size]? ∧ 
 Br b3
 (Br (decide ((x2 : Int) ≤ a2))
 (R (.returned (.bool false)) w1)
 (Br b3
 (Calls Try.prog n_queue_Queue_Drop #[.pointer (some a0), .agg #[.int .i64 a1_0, .int .i64 a1_1, .int .i64 a1_2]] w1 (fun e w4 => ∃ (b5 : Bool), e = .returned (.bool b5) ∧ w4.heap[w.heap.size]? = w1.heap[w.heap.size]? ∧ 
 Calls Try.prog n_queue_Queue_push #[.pointer (some a0), .agg #[.int .i64 a2, .int .i64 a1_0, .int .i64 a1_1, .int .i64 a1_2]] w4 (fun e w6 => e = .returned (.tuple #[]) ∧ w6.heap[w.heap.size]? = w4.heap[w.heap.size]? ∧ 
 R (.returned (.bool true)) w6)))
 (∃ (s7 : Sl), ld w1.drew (padd (some a0) 2) = some (.slice s7.a s7.n s7.c) ∧
 ∃ (x8 : Int), ld w1.drew (padd (some a0) 0) = some (.int .i64 x8) ∧
 Br ((((s7.n : Nat) : Int) : Int) == x8)
 (∃ (x9 : Int), ld w1.drew (padd (some a0) 1) = some (.int .i64 x9) ∧
 (true = true ∧ Wr w1.drew (padd (some a0) 1) 1) ∧ pblk (padd (some a0) 1) ≠ some w.heap.size ∧ (∀ w10 : World, w10 = setP w1.drew (padd (some a0) 1) [.int .i64 (IntKind.wrap .i64 (x9 + 1))] →
 R (.returned (.bool false)) w10))
 (Calls Try.prog n_queue_Queue_push #[.pointer (some a0), .agg #[.int .i64 a2, .int .i64 a1_0, .int .i64 a1_1, .int .i64 a1_2]] w1.drew (fun e w11 => e = .returned (.tuple #[]) ∧ w11.heap[w.heap.size]? = w1.drew.heap[w.heap.size]? ∧ 
 R (.returned (.bool true)) w11)))))
 (Br b3
 (Calls Try.prog n_queue_Queue_Drop #[.pointer (some a0), .agg #[.int .i64 a1_0, .int .i64 a1_1, .int .i64 a1_2]] w1 (fun e w12 => ∃ (b13 : Bool), e = .returned (.bool b13) ∧ w12.heap[w.heap.size]? = w1.heap[w.heap.size]? ∧ 
 Calls Try.prog n_queue_Queue_push #[.pointer (some a0), .agg #[.int .i64 a2, .int .i64 a1_0, .int .i64 a1_1, .int .i64 a1_2]] w12 (fun e w14 => e = .returned (.tuple #[]) ∧ w14.heap[w.heap.size]? = w12.heap[w.heap.size]? ∧ 
 R (.returned (.bool true)) w14)))
 (∃ (s15 : Sl), ld w1.drew (padd (some a0) 2) = some (.slice s15.a s15.n s15.c) ∧
 ∃ (x16 : Int), ld w1.drew (padd (some a0) 0) = some (.int .i64 x16) ∧
 Br ((((s15.n : Nat) : Int) : Int) == x16)
 (∃ (x17 : Int), ld w1.drew (padd (some a0) 1) = some (.int .i64 x17) ∧
 (true = true ∧ Wr w1.drew (padd (some a0) 1) 1) ∧ pblk (padd (some a0) 1) ≠ some w.heap.size ∧ (∀ w18 : World, w18 = setP w1.drew (padd (some a0) 1) [.int .i64 (IntKind.wrap .i64 (x17 + 1))] →
 R (.returned (.bool false)) w18))
 (Calls Try.prog n_queue_Queue_push #[.pointer (some a0), .agg #[.int .i64 a2, .int .i64 a1_0, .int .i64 a1_1, .int .i64 a1_2]] w1.drew (fun e w19 => e = .returned (.tuple #[]) ∧ w19.heap[w.heap.size]? = w1.drew.heap[w.heap.size]? ∧ 
 R (.returned (.bool true)) w19)))))
theorem queue_Queue_Add.vc {a0 a1_0 a1_1 a1_2 a2 w} {R : Ending → World → Prop} (h : queue_Queue_Add.pre a0 a1_0 a1_1 a1_2 a2 w R) : Calls Try.prog n_queue_Queue_Add #[.pointer (some a0), .agg #[.int .i64 a1_0, .int .i64 a1_1, .int .i64 a1_2], .int .i64 a2] w R :=
  calls_of_eq (an := ⟨[], [], []⟩) (args := [.pointer (some a0), .agg #[.int .i64 a1_0, .int .i64 a1_1, .int .i64 a1_2], .int .i64 a2]) Try.noNG Try.mixed Try.func9 h (by kernel_rfl)

/- (*breccia/queue.Queue).Due  -/
def queue_Queue_Due.pre (a0 : Addr) (a1 : Int) (a2 : Int) (w : World) (R : Ending → World → Prop) : Prop :=
 ∃ I0 : Nat → Int → World → Prop,
 (∃ n1, I0 n1 (0) w) ∧
 ∀ (n1 : Nat) (us2 : Nat → Value) (x3 : Int) (w4 : World), I0 n1 x3 w4 →
 ∃ (s6 : Sl), ld w4 (padd (some a0) 2) = some (.slice s6.a s6.n s6.c) ∧
 Br (decide ((x3 : Int) < ((s6.n : Nat) : Int)))
 (Br (decide ((x3 : Int) < a2))
 (∃ (s7 : Sl), ld w4 (padd (some a0) 2) = some (.slice s7.a s7.n s7.c) ∧
 InB s7.a x3 s7.n ∧ AndL (nnC (padd s7.a ((x3 : Int).toNat * 4))) (∃ (x8 : Int), ld w4 (padd (padd s7.a ((x3 : Int).toNat * 4)) 0) = some (.int .i64 x8) ∧
 Br (decide ((x8 : Int) ≤ a1))
 (∃ n5, n5 < n1 ∧ I0 n5 ((IntKind.wrap .i64 (x3 + 1))) w4)
 (∃ (s9 : Sl), ld w4 (padd (some a0) 2) = some (.slice s9.a s9.n s9.c) ∧
 (0 : Int) ≤ x3 ∧ x3 ≤ ((s9.c : Nat) : Int) ∧ (0 : Int) ≤ x3 ∧ (x3 : Int) ≤ x3 ∧ ∃ I10 : Nat → Int → Sl → World → Prop,
 (∃ n11, I10 n11 (0) ⟨none, 0, 0⟩ w4) ∧
 ∀ (n11 : Nat) (us12 : Nat → Value) (x13 : Int) (s14 : Sl) (w15 : World), I10 n11 x13 s14 w15 →
 Br (decide ((x13 : Int) < ((((x3 : Int).toNat - 0) : Nat) : Int)))
 (InB (slBase s9.a (0) ((x3 : Int).toNat) 4) x13 ((x3 : Int).toNat - 0) ∧ ∃ (x17 : Int) (x18 : Int) (x19 : Int) (x20 : Int), LoadL w15 (padd (slBase s9.a (0) ((x3 : Int).toNat) 4) ((x13 : Int).toNat * 4)) 0 [.int .i64 x17, .int .i64 x18, .int .i64 x19, .int .i64 x20] ∧
 ∀ w21 : World, w21 = w15.alloc (.cells #[.int .i64 0, .int .i64 0, .int .i64 0, .int .i64 0] 36) →
 ∀ w22 : World, w22 = w21.setRow w15.heap.size #[.int .i64 x17, .int .i64 x18, .int .i64 x19, .int .i64 x20] →
 ∀ w23 : World, w23 = w22.alloc (.cells #[.int .i64 x18, .int .i64 x19, .int .i64 x20] 28) →
 AppPre 24 3 w23 ⟨s14.a, s14.n, s14.c⟩ 1 [.int .i64 x18, .int .i64 x19, .int .i64 x20] ∧ ∀ (s24 : Sl) (w25 : World), AppRes 28 3 w23 ⟨s14.a, s14.n, s14.c⟩ 1 [.int .i64 x18, .int .i64 x19, .int .i64 x20] s24 w25 → w25.heap[w15.heap.size]? = w23.heap[w15.heap.size]? ∧ w25.heap[w22.heap.size]? = w23.heap[w22.heap.size]? ∧ 
 ∃ (m26 : Option Nat), ld w25.drew (padd (some a0) 3) = some (.map m26) ∧
 ∃ (G27 : Value → Prop) (kvs28 : List (Value × Value)), KeyOk Try.prog 28 G27 ∧ (m26 : Option Nat).isSome = true ∧ MapIs G27 w25.drew m26 kvs28 ∧ G27 (.agg #[.int .i64 x18, .int .i64 x19, .int .i64 x20]) ∧ ∀ w29 : World, Rec ((m26 : Option Nat).getD 0) w25.drew w29 → MapIs G27 w29 m26 (delL kvs28 (.agg #[.int .i64 x18, .int .i64 x19, .int .i64 x20])) →
 ∃ n16, n16 < n11 ∧ I10 n16 ((IntKind.wrap .i64 (x13 + 1))) ⟨s24.a, s24.n, s24.c⟩ w29)
 (∃ (s30 : Sl), ld w15 (padd (some a0) 2) = some (.slice s30.a s30.n s30.c) ∧
 Calls Try.prog n_slices_Delete_Item #[.slice s30.a s30.n s30.c, .int .i64 0, .int .i64 x3] w15 (fun e w31 => ∃ (s32 : Sl), e = .returned (.slice s32.a s32.n s32.c) ∧ 
 (true = true ∧ Wr w31 (padd (some a0) 2) 1) ∧ (∀ w33 : World, w33 = setP w31 (padd (some a0) 2) [.slice s32.a s32.n s32.c] →
 R (.returned (.slice s14.a s14.n s14.c)) w33))))))
 (∃ (s34 : Sl), ld w4 (padd (some a0) 2) = some (.slice s34.a s34.n s34.c) ∧
 (0 : Int) ≤ x3 ∧ x3 ≤ ((s34.c : Nat) : Int) ∧ (0 : Int) ≤ x3 ∧ (x3 : Int) ≤ x3 ∧ ∃ I35 : Nat → Int → Sl → World → Prop,
 (∃ n36, I35 n36 (0) ⟨none, 0, 0⟩ w4) ∧
 ∀ (n36 : Nat) (us37 : Nat → Value) (x38 : Int) (s39 : Sl) (w40 : World), I35 n36 x38 s39 w40 →
 Br (decide ((x38 : Int) < ((((x3 : Int).toNat - 0) : Nat) : Int)))
 (InB (slBase s34.a (0) ((x3 : Int).toNat) 4) x38 ((x3 : Int).toNat - 0) ∧ ∃ (x42 : Int) (x43 : Int) (x44 : Int) (x45 : Int), LoadL w40 (padd (slBase s34.a (0) ((x3 : Int).toNat) 4) ((x38 : Int).toNat * 4)) 0 [.int .i64 x42, .int .i64 x43, .int .i64 x44, .int .i64 x45] ∧
 ∀ w46 : World, w46 = w40.alloc (.cells #[.int .i64 0, .int .i64 0, .int .i64 0, .int .i64 0] 36) →
 ∀ w47 : World, w47 = w46.setRow w40.heap.size #[.int .i64 x42, .int .i64 x43, .int .i64 x44, .int .i64 x45] →
 ∀ w48 : World, w48 = w47.alloc (.cells #[.int .i64 x43, .int .i64 x44, .int .i64 x45] 28) →
 AppPre 24 3 w48 ⟨s39.a, s39.n, s39.c⟩ 1 [.int .i64 x43, .int .i64 x44, .int .i64 x45] ∧ ∀ (s49 : Sl) (w50 : World), AppRes 28 3 w48 ⟨s39.a, s39.n, s39.c⟩ 1 [.int .i64 x43, .int .i64 x44, .int .i64 x45] s49 w50 → w50.heap[w40.heap.size]? = w48.heap[w40.heap.size]? ∧ w50.heap[w47.heap.size]? = w48.heap[w47.heap.size]? ∧ 
 ∃ (m51 : Option Nat), ld w50.drew (padd (some a0) 3) = some (.map m51) ∧
 ∃ (G52 : Value → Prop) (kvs53 : List (Value × Value)), KeyOk Try.prog 28 G52 ∧ (m51 : Option Nat).isSome = true ∧ MapIs G52 w50.drew m51 kvs53 ∧ G52 (.agg #[.int .i64 x43, .int .i64 x44, .int .i64 x45]) ∧ ∀ w54 : World, Rec ((m51 : Option Nat).getD 0) w50.drew w54 → MapIs G52 w54 m51 (delL kvs53 (.agg #[.int .i64 x43, .int .i64 x44, .int .i64 x45])) →
 ∃ n41, n41 < n36 ∧ I35 n41 ((IntKind.wrap .i64 (x38 + 1))) ⟨s49.a, s49.n, s49.c⟩ w54)
 (∃ (s55 : Sl), ld w40 (padd (some a0) 2) = some (.slice s55.a s55.n s55.c) ∧
 Calls Try.prog n_slices_Delete_Item #[.slice s55.a s55.n s55.c, .int .i64 0, .int .i64 x3] w40 (fun e w56 => ∃ (s57 : Sl), e = .returned (.slice s57.a s57.n s57.c) ∧ 
 (true = true ∧ Wr w56 (padd (some a0) 2) 1) ∧ (∀ w58 : World, w58 = setP w56 (padd (some a0) 2) [.slice s57.a s57.n s57.c] →
 R (.returned (.slice s39.a s39.n s39.c)) w58)))))
 (∃ (s59 : Sl), ld w4 (padd (some a0) 2) = some (.slice s59.a s59.n s59.c) ∧
 (0 : Int) ≤ x3 ∧ x3 ≤ ((s59.c : Nat) : Int) ∧ (0 : Int) ≤ x3 ∧ (x3 : Int) ≤ x3 ∧ ∃ I60 : Nat → Int → Sl → World → Prop,
 (∃ n61, I60 n61 (0) ⟨none, 0, 0⟩ w4) ∧
 ∀ (n61 : Nat) (us62 : Nat → Value) (x63 : Int) (s64 : Sl) (w65 : World), I60 n61 x63 s64 w65 →
 Br (decide ((x63 : Int) < ((((x3 : Int).toNat - 0) : Nat) : Int)))
 (InB (slBase s59.a (0) ((x3 : Int).toNat) 4) x63 ((x3 : Int).toNat - 0) ∧ ∃ (x67 : Int) (x68 : Int) (x69 : Int) (x70 : Int), LoadL w65 (padd (slBase s59.a (0) ((x3 : Int).toNat) 4) ((x63 : Int).toNat * 4)) 0 [.int .i64 x67, .int .i64 x68, .int .i64 x69, .int .i64 x70] ∧
 ∀ w71 : World, w71 = w65.alloc (.cells #[.int .i64 0, .int .i64 0, .int .i64 0, .int .i64 0] 36) →
 ∀ w72 : World, w72 = w71.setRow w65.heap.size #[.int .i64 x67, .int .i64 x68, .int .i64 x69, .int .i64 x70] →
 ∀ w73 : World, w73 = w72.alloc (.cells #[.int .i64 x68, .int .i64 x69, .int .i64 x70] 28) →
 AppPre 24 3 w73 ⟨s64.a, s64.n, s64.c⟩ 1 [.int .i64 x68, .int .i64 x69, .int .i64 x70] ∧ ∀ (s74 : Sl) (w75 : World), AppRes 28 3 w73 ⟨s64.a, s64.n, s64.c⟩ 1 [.int .i64 x68, .int .i64 x69, .int .i64 x70] s74 w75 → w75.heap[w65.heap.size]? = w73.heap[w65.heap.size]? ∧ w75.heap[w72.heap.size]? = w73.heap[w72.heap.size]? ∧ 
 ∃ (m76 : Option Nat), ld w75.drew (padd (some a0) 3) = some (.map m76) ∧
 ∃ (G77 : Value → Prop) (kvs78 : List (Value × Value)), KeyOk Try.prog 28 G77 ∧ (m76 : Option Nat).isSome = true ∧ MapIs G77 w75.drew m76 kvs78 ∧ G77 (.agg #[.int .i64 x68, .int .i64 x69, .int .i64 x70]) ∧ ∀ w79 : World, Rec ((m76 : Option Nat).getD 0) w75.drew w79 → MapIs G77 w79 m76 (delL kvs78 (.agg #[.int .i64 x68, .int .i64 x69, .int .i64 x70])) →
 ∃ n66, n66 < n61 ∧ I60 n66 ((IntKind.wrap .i64 (x63 + 1))) ⟨s74.a, s74.n, s74.c⟩ w79)
 (∃ (s80 : Sl), ld w65 (padd (some a0) 2) = some (.slice s80.a s80.n s80.c) ∧
 Calls Try.prog n_slices_Delete_Item #[.slice s80.a s80.n s80.c, .int .i64 0, .int .i64 x3] w65 (fun e w81 => ∃ (s82 : Sl), e = .returned (.slice s82.a s82.n s82.c) ∧ 
 (true = true ∧ Wr w81 (padd (some a0) 2) 1) ∧ (∀ w83 : World, w83 = setP w81 (padd (some a0) 2) [.slice s82.a s82.n s82.c] →
 R (.returned (.slice s64.a s64.n s64.c)) w83))))
theorem queue_Queue_Due.vc {a0 a1 a2 w} {R : Ending → World → Prop} (h : queue_Queue_Due.pre a0 a1 a2 w R) : Calls Try.prog n_queue_Queue_Due #[.pointer (some a0), .int .i64 a1, .int .i64 a2] w R :=
  calls_of_eq (an := ⟨[(6, ⟨[(45, .int .i64), (8, .slice)], [], []⟩), (6, ⟨[(45, .int .i64), (8, .slice)], [], []⟩), (6, ⟨[(45, .int .i64), (8, .slice)], [], []⟩), (2, ⟨[(7, .int .i64)], [], []⟩)], [], []⟩) (args := [.pointer (some a0), .int .i64 a1, .int .i64 a2]) Try.noNG Try.mixed Try.func10 h (by kernel_rfl)

/- (*breccia/queue.Queue).Len  -/
def queue_Queue_Len.pre (a0 : Addr) (w : World) (R : Ending → World → Prop) : Prop :=
 ∃ (s0 : Sl), ld w (padd (some a0) 2) = some (.slice s0.a s0.n s0.c) ∧
 R (.returned (.int .i64 ((s0.n : Nat) : Int))) w
theorem queue_Queue_Len.vc {a0 w} {R : Ending → World → Prop} (h : queue_Queue_Len.pre a0 w R) : Calls Try.prog n_queue_Queue_Len #[.pointer (some a0)] w R :=
  calls_of_eq (an := ⟨[], [], []⟩) (args := [.pointer (some a0)]) Try.noNG Try.mixed Try.func11 h (by kernel_rfl)

/- breccia/breccialaw17.lives  -/
def law17_lives.pre  (w : World) (R : Ending → World → Prop) : Prop :=
 Calls Try.prog n_queue_New #[.int .i64 9] w (fun e w0 => ∃ (p1 : Option Addr), e = .returned (.pointer p1) ∧ 
 Br (p1).isNone
 (R (.returned (.bool false)) w0)
 (Calls Try.prog n_queue_Queue_Add #[.pointer p1, .agg #[.int .i64 1, .int .i64 0, .int .i64 0], .int .i64 5] w0 (fun e w2 => ∃ (b3 : Bool), e = .returned (.bool b3) ∧ 
 Calls Try.prog n_queue_Queue_Add #[.pointer p1, .agg #[.int .i64 1, .int .i64 0, .int .i64 0], .int .i64 3] w2 (fun e w4 => ∃ (b5 : Bool), e = .returned (.bool b5) ∧ 
 Calls Try.prog n_queue_Queue_Due #[.pointer p1, .int .i64 3, .int .i64 9] w4 (fun e w6 => ∃ (s7 : Sl), e = .returned (.slice s7.a s7.n s7.c) ∧ 
 ∀ w8 : World, w8 = w6.alloc (.cells #[.int .i64 1, .int .i64 0, .int .i64 0] 28) →
 Calls Try.prog n_ref17_SameCells #[.slice s7.a s7.n s7.c, .slice (some ⟨w6.heap.size, 0, none⟩) 1 1] w8 (fun e w9 => ∃ (b10 : Bool), e = .returned (.bool b10) ∧ 
 Br b10
 (Calls Try.prog n_queue_Queue_Len #[.pointer p1] w9 (fun e w11 => ∃ (x12 : Int), e = .returned (.int .i64 x12) ∧ 
 R (.returned (.bool ((x12 : Int) == 0))) w11))
 (R (.returned (.bool false)) w9)))))))
theorem law17_lives.vc {w} {R : Ending → World → Prop} (h : law17_lives.pre  w R) : Calls Try.prog n_law17_lives #[] w R :=
  calls_of_eq (an := ⟨[], [], []⟩) (args := []) Try.noNG Try.mixed Try.func12 h (by kernel_rfl)

/- breccia/brecciaref17.SameCells  -/
def ref17_SameCells.pre (a0 : Sl) (a1 : Sl) (w : World) (R : Ending → World → Prop) : Prop :=
 Br ((((a0.n : Nat) : Int) : Int) != ((a1.n : Nat) : Int))
 (R (.returned (.bool false)) w)
 (∃ I0 : Nat → Int → World → Prop,
 (∃ n1, I0 n1 (0) w) ∧
 ∀ (n1 : Nat) (us2 : Nat → Value) (x3 : Int) (w4 : World), I0 n1 x3 w4 →
 Br (decide ((x3 : Int) < ((a0.n : Nat) : Int)))
 (InB a0.a x3 a0.n ∧ ∃ (x6 : Int) (x7 : Int) (x8 : Int), LoadL w4.drew (padd a0.a ((x3 : Int).toNat * 3)) 0 [.int .i64 x6, .int .i64 x7, .int .i64 x8] ∧
 InB a1.a x3 a1.n ∧ ∃ (x9 : Int) (x10 : Int) (x11 : Int), LoadL w4.drew (padd a1.a ((x3 : Int).toNat * 3)) 0 [.int .i64 x9, .int .i64 x10, .int .i64 x11] ∧
 Br (!(((x6 : Int) == x9) && (((x7 : Int) == x10) && ((x8 : Int) == x11))))
 (R (.returned (.bool false)) w4.drew)
 (∃ n5, n5 < n1 ∧ I0 n5 ((IntKind.wrap .i64 (x3 + 1))) w4.drew))
 (R (.returned (.bool true)) w4))
theorem ref17_SameCells.vc {a0 a1 w} {R : Ending → World → Prop} (h : ref17_SameCells.pre a0 a1 w R) : Calls Try.prog n_ref17_SameCells #[.slice a0.a a0.n a0.c, .slice a1.a a1.n a1.c] w R :=
  calls_of_eq (an := ⟨[(4, ⟨[(5, .int .i64)], [], []⟩)], [], []⟩) (args := [.slice a0.a a0.n a0.c, .slice a1.a a1.n a1.c]) Try.noNG Try.mixed Try.func13 h (by kernel_rfl)

/- (*breccia/queue.Queue).Next  -/
def queue_Queue_Next.pre (a0 : Addr) (w : World) (R : Ending → World → Prop) : Prop :=
 ∀ w0 : World, w0 = w.alloc (.cells #[.int .i64 0, .int .i64 0, .int .i64 0, .int .i64 0] 36) →
 ∃ (s1 : Sl), ld w0 (padd (some a0) 2) = some (.slice s1.a s1.n s1.c) ∧
 Br ((((s1.n : Nat) : Int) : Int) == 0)
 (∀ w2 : World, w2 = w0.setRow w.heap.size #[.int .i64 0, .int .i64 0, .int .i64 0, .int .i64 0] →
 R (.returned (.tuple #[.agg #[.int .i64 0, .int .i64 0, .int .i64 0, .int .i64 0], .bool false])) w2)
 (∃ (s3 : Sl), ld w0 (padd (some a0) 2) = some (.slice s3.a s3.n s3.c) ∧
 InB s3.a 0 s3.n ∧ ∃ (x4 : Int) (x5 : Int) (x6 : Int) (x7 : Int), LoadL w0 (padd s3.a ((0 : Int).toNat * 4)) 0 [.int .i64 x4, .int .i64 x5, .int .i64 x6, .int .i64 x7] ∧
 ∀ w8 : World, w8 = w0.setRow w.heap.size #[.int .i64 x4, .int .i64 x5, .int .i64 x6, .int .i64 x7] →
 R (.returned (.tuple #[.agg #[.int .i64 x4, .int .i64 x5, .int .i64 x6, .int .i64 x7], .bool true])) w8)
theorem queue_Queue_Next.vc {a0 w} {R : Ending → World → Prop} (h : queue_Queue_Next.pre a0 w R) : Calls Try.prog n_queue_Queue_Next #[.pointer (some a0)] w R :=
  calls_of_eq (an := ⟨[], [], []⟩) (args := [.pointer (some a0)]) Try.noNG Try.mixed Try.func14 h (by kernel_rfl)

/- (*breccia/queue.Queue).Lost  -/
def queue_Queue_Lost.pre (a0 : Addr) (w : World) (R : Ending → World → Prop) : Prop :=
 ∃ (x0 : Int), ld w (padd (some a0) 1) = some (.int .i64 x0) ∧
 R (.returned (.int .i64 x0)) w
theorem queue_Queue_Lost.vc {a0 w} {R : Ending → World → Prop} (h : queue_Queue_Lost.pre a0 w R) : Calls Try.prog n_queue_Queue_Lost #[.pointer (some a0)] w R :=
  calls_of_eq (an := ⟨[], [], []⟩) (args := [.pointer (some a0)]) Try.noNG Try.mixed Try.func15 h (by kernel_rfl)

/- breccia/brecciaref17.New  -/
def ref17_New.pre (a0 : Int) (w : World) (R : Ending → World → Prop) : Prop :=
 ∀ w0 : World, w0 = w.alloc (.cells #[.int .i64 0, .int .i64 0, .slice none 0 0] 43) →
 ∀ w1 : World, w1 = w0.setRow w.heap.size #[.int .i64 (if 4096 < (if 1 > a0 then 1 else a0) then 4096 else (if 1 > a0 then 1 else a0)), .int .i64 0, .slice none 0 0] →
 R (.returned (.agg #[.int .i64 (if 4096 < (if 1 > a0 then 1 else a0) then 4096 else (if 1 > a0 then 1 else a0)), .int .i64 0, .slice none 0 0])) w1
theorem ref17_New.vc {a0 w} {R : Ending → World → Prop} (h : ref17_New.pre a0 w R) : Calls Try.prog n_ref17_New #[.int .i64 a0] w R :=
  calls_of_eq (an := ⟨[], [], []⟩) (args := [.int .i64 a0]) Try.noNG Try.mixed Try.func16 h (by kernel_rfl)

/- breccia/breccialaw17.does  -/
def law17_does.pre (a0 : Addr) (a1_0 : Int) (a1_1 : Int) (a1_2 : Sl) (a2_0 : Int) (a2_1 : Int) (a2_2 : Int) (a2_3 : Int) (a2_4 : Int) (a2_5 : Int) (w : World) (R : Ending → World → Prop) : Prop :=
 ∀ w0 : World, w0 = w.alloc (.cells #[.int .i64 a1_0, .int .i64 a1_1, .slice a1_2.a a1_2.n a1_2.c] 43) →
 ∀ w1 : World, w1 = w0.alloc (.cells #[.int .i64 a2_0, .int .i64 a2_1, .int .i64 a2_2, .int .i64 a2_3, .int .i64 a2_4, .int .i64 a2_5] 48) →
 ∀ w2 : World, w2 = w1.alloc (.cells #[.int .i64 0, .int .i64 0, .slice none 0 0] 43) →
 Calls Try.prog n_law17_small #[.agg #[.int .i64 a2_3, .int .i64 a2_4, .int .i64 a2_5]] w2 (fun e w3 => ∃ (x4 : Int) (x5 : Int) (x6 : Int), e = .returned (.agg #[.int .i64 x4, .int .i64 x5, .int .i64 x6]) ∧ w3.heap[w.heap.size]? = w2.heap[w.heap.size]? ∧ w3.heap[w0.heap.size]? = w2.heap[w0.heap.size]? ∧ w3.heap[w1.heap.size]? = w2.heap[w1.heap.size]? ∧ 
 ∀ w7 : World, w7 = w3.alloc (.cells #[.int .i64 0, .int .i64 0, .int .i64 0] 28) →
 ∀ w8 : World, w8 = w7.setRow w3.heap.size #[.int .i64 x4, .int .i64 x5, .int .i64 x6] →
 Br ((a2_0 : Int) == 0)
 (Calls Try.prog n_ref17_Add #[.agg #[.int .i64 a1_0, .int .i64 a1_1, .slice a1_2.a a1_2.n a1_2.c], .agg #[.int .i64 x4, .int .i64 x5, .int .i64 x6], .int .i64 a2_1] w8 (fun e w9 => ∃ (x10 : Int) (x11 : Int) (s12 : Sl) (b13 : Bool), e = .returned (.tuple #[.agg #[.int .i64 x10, .int .i64 x11, .slice s12.a s12.n s12.c], .bool b13]) ∧ w9.heap[w.heap.size]? = w8.heap[w.heap.size]? ∧ w9.heap[w0.heap.size]? = w8.heap[w0.heap.size]? ∧ w9.heap[w1.heap.size]? = w8.heap[w1.heap.size]? ∧ w9.heap[w3.heap.size]? = w8.heap[w3.heap.size]? ∧ 
 ∀ w14 : World, w14 = w9.alloc (.cells #[.int .i64 0, .int .i64 0, .slice none 0 0] 43) →
 ∀ w15 : World, w15 = w14.setRow w9.heap.size #[.int .i64 x10, .int .i64 x11, .slice s12.a s12.n s12.c] →
 Calls Try.prog n_queue_Queue_Add #[.pointer (some a0), .agg #[.int .i64 x4, .int .i64 x5, .int .i64 x6], .int .i64 a2_1] w15.drew (fun e w16 => ∃ (b17 : Bool), e = .returned (.bool b17) ∧ w16.heap[w.heap.size]? = w15.drew.heap[w.heap.size]? ∧ w16.heap[w0.heap.size]? = w15.drew.heap[w0.heap.size]? ∧ w16.heap[w1.heap.size]? = w15.drew.heap[w1.heap.size]? ∧ w16.heap[w3.heap.size]? = w15.drew.heap[w3.heap.size]? ∧ w16.heap[w9.heap.size]? = w15.drew.heap[w9.heap.size]? ∧ 
 LoadL w16 (some ⟨w9.heap.size, 0, none⟩) 0 [.int .i64 x10, .int .i64 x11, .slice s12.a s12.n s12.c] ∧ ∀ w18 : World, w18 = w16.setRow w1.heap.size #[.int .i64 x10, .int .i64 x11, .slice s12.a s12.n s12.c] →
 R (.returned (.tuple #[.agg #[.int .i64 x10, .int .i64 x11, .slice s12.a s12.n s12.c], .bool (b17 == b13)])) w18)))
 (Br ((a2_0 : Int) == 1)
 (Calls Try.prog n_ref17_Due #[.agg #[.int .i64 a1_0, .int .i64 a1_1, .slice a1_2.a a1_2.n a1_2.c], .int .i64 a2_1, .int .i64 a2_2] w8 (fun e w19 => ∃ (x20 : Int) (x21 : Int) (s22 : Sl) (s23 : Sl), e = .returned (.tuple #[.agg #[.int .i64 x20, .int .i64 x21, .slice s22.a s22.n s22.c], .slice s23.a s23.n s23.c]) ∧ w19.heap[w.heap.size]? = w8.heap[w.heap.size]? ∧ w19.heap[w0.heap.size]? = w8.heap[w0.heap.size]? ∧ w19.heap[w1.heap.size]? = w8.heap[w1.heap.size]? ∧ w19.heap[w3.heap.size]? = w8.heap[w3.heap.size]? ∧ 
 ∀ w24 : World, w24 = w19.alloc (.cells #[.int .i64 0, .int .i64 0, .slice none 0 0] 43) →
 ∀ w25 : World, w25 = w24.setRow w19.heap.size #[.int .i64 x20, .int .i64 x21, .slice s22.a s22.n s22.c] →
 Calls Try.prog n_queue_Queue_Due #[.pointer (some a0), .int .i64 a2_1, .int .i64 a2_2] w25.drew (fun e w26 => ∃ (s27 : Sl), e = .returned (.slice s27.a s27.n s27.c) ∧ w26.heap[w.heap.size]? = w25.drew.heap[w.heap.size]? ∧ w26.heap[w0.heap.size]? = w25.drew.heap[w0.heap.size]? ∧ w26.heap[w1.heap.size]? = w25.drew.heap[w1.heap.size]? ∧ w26.heap[w3.heap.size]? = w25.drew.heap[w3.heap.size]? ∧ w26.heap[w19.heap.size]? = w25.drew.heap[w19.heap.size]? ∧ 
 LoadL w26 (some ⟨w19.heap.size, 0, none⟩) 0 [.int .i64 x20, .int .i64 x21, .slice s22.a s22.n s22.c] ∧ Calls Try.prog n_ref17_SameCells #[.slice s27.a s27.n s27.c, .slice s23.a s23.n s23.c] w26 (fun e w28 => ∃ (b29 : Bool), e = .returned (.bool b29) ∧ w28.heap[w.heap.size]? = w26.heap[w.heap.size]? ∧ w28.heap[w0.heap.size]? = w26.heap[w0.heap.size]? ∧ w28.heap[w1.heap.size]? = w26.heap[w1.heap.size]? ∧ w28.heap[w3.heap.size]? = w26.heap[w3.heap.size]? ∧ w28.heap[w19.heap.size]? = w26.heap[w19.heap.size]? ∧ 
 LoadL w28 (some ⟨w19.heap.size, 0, none⟩) 0 [.int .i64 x20, .int .i64 x21, .slice s22.a s22.n s22.c] ∧ ∀ w30 : World, w30 = w28.setRow w1.heap.size #[.int .i64 x20, .int .i64 x21, .slice s22.a s22.n s22.c] →
 R (.returned (.tuple #[.agg #[.int .i64 x20, .int .i64 x21, .slice s22.a s22.n s22.c], .bool b29])) w30))))
 (Br ((a2_0 : Int) == 2)
 (Calls Try.prog n_ref17_Drop #[.agg #[.int .i64 a1_0, .int .i64 a1_1, .slice a1_2.a a1_2.n a1_2.c], .agg #[.int .i64 x4, .int .i64 x5, .int .i64 x6]] w8 (fun e w31 => ∃ (x32 : Int) (x33 : Int) (s34 : Sl) (b35 : Bool), e = .returned (.tuple #[.agg #[.int .i64 x32, .int .i64 x33, .slice s34.a s34.n s34.c], .bool b35]) ∧ w31.heap[w.heap.size]? = w8.heap[w.heap.size]? ∧ w31.heap[w0.heap.size]? = w8.heap[w0.heap.size]? ∧ w31.heap[w1.heap.size]? = w8.heap[w1.heap.size]? ∧ w31.heap[w3.heap.size]? = w8.heap[w3.heap.size]? ∧ 
 ∀ w36 : World, w36 = w31.alloc (.cells #[.int .i64 0, .int .i64 0, .slice none 0 0] 43) →
 ∀ w37 : World, w37 = w36.setRow w31.heap.size #[.int .i64 x32, .int .i64 x33, .slice s34.a s34.n s34.c] →
 Calls Try.prog n_queue_Queue_Drop #[.pointer (some a0), .agg #[.int .i64 x4, .int .i64 x5, .int .i64 x6]] w37.drew (fun e w38 => ∃ (b39 : Bool), e = .returned (.bool b39) ∧ w38.heap[w.heap.size]? = w37.drew.heap[w.heap.size]? ∧ w38.heap[w0.heap.size]? = w37.drew.heap[w0.heap.size]? ∧ w38.heap[w1.heap.size]? = w37.drew.heap[w1.heap.size]? ∧ w38.heap[w3.heap.size]? = w37.drew.heap[w3.heap.size]? ∧ w38.heap[w31.heap.size]? = w37.drew.heap[w31.heap.size]? ∧ 
 LoadL w38 (some ⟨w31.heap.size, 0, none⟩) 0 [.int .i64 x32, .int .i64 x33, .slice s34.a s34.n s34.c] ∧ ∀ w40 : World, w40 = w38.setRow w1.heap.size #[.int .i64 x32, .int .i64 x33, .slice s34.a s34.n s34.c] →
 R (.returned (.tuple #[.agg #[.int .i64 x32, .int .i64 x33, .slice s34.a s34.n s34.c], .bool (b39 == b35)])) w40)))
 (∀ w41 : World, w41 = w8.alloc (.cells #[.int .i64 0, .int .i64 0, .int .i64 0] 28) →
 ∀ w42 : World, w42 = w41.setRow w8.heap.size #[.int .i64 (IntKind.wrap .i64 (x4 + 1)), .int .i64 x5, .int .i64 x6] →
 Calls Try.prog n_ref17_Add #[.agg #[.int .i64 a1_0, .int .i64 a1_1, .slice a1_2.a a1_2.n a1_2.c], .agg #[.int .i64 x4, .int .i64 x5, .int .i64 x6], .int .i64 a2_1] w42 (fun e w43 => ∃ (x44 : Int) (x45 : Int) (s46 : Sl) (b47 : Bool), e = .returned (.tuple #[.agg #[.int .i64 x44, .int .i64 x45, .slice s46.a s46.n s46.c], .bool b47]) ∧ w43.heap[w.heap.size]? = w42.heap[w.heap.size]? ∧ w43.heap[w0.heap.size]? = w42.heap[w0.heap.size]? ∧ w43.heap[w1.heap.size]? = w42.heap[w1.heap.size]? ∧ w43.heap[w3.heap.size]? = w42.heap[w3.heap.size]? ∧ w43.heap[w8.heap.size]? = w42.heap[w8.heap.size]? ∧ 
 ∀ w48 : World, w48 = w43.alloc (.cells #[.int .i64 0, .int .i64 0, .slice none 0 0] 43) →
 ∀ w49 : World, w49 = w48.setRow w43.heap.size #[.int .i64 x44, .int .i64 x45, .slice s46.a s46.n s46.c] →
 Calls Try.prog n_ref17_Add #[.agg #[.int .i64 x44, .int .i64 x45, .slice s46.a s46.n s46.c], .agg #[.int .i64 (IntKind.wrap .i64 (x4 + 1)), .int .i64 x5, .int .i64 x6], .int .i64 a2_2] w49 (fun e w50 => ∃ (x51 : Int) (x52 : Int) (s53 : Sl) (b54 : Bool), e = .returned (.tuple #[.agg #[.int .i64 x51, .int .i64 x52, .slice s53.a s53.n s53.c], .bool b54]) ∧ w50.heap[w.heap.size]? = w49.heap[w.heap.size]? ∧ w50.heap[w0.heap.size]? = w49.heap[w0.heap.size]? ∧ w50.heap[w1.heap.size]? = w49.heap[w1.heap.size]? ∧ w50.heap[w3.heap.size]? = w49.heap[w3.heap.size]? ∧ w50.heap[w8.heap.size]? = w49.heap[w8.heap.size]? ∧ w50.heap[w43.heap.size]? = w49.heap[w43.heap.size]? ∧ 
 ∀ w55 : World, w55 = w50.alloc (.cells #[.int .i64 0, .int .i64 0, .slice none 0 0] 43) →
 ∀ w56 : World, w56 = w55.setRow w50.heap.size #[.int .i64 x51, .int .i64 x52, .slice s53.a s53.n s53.c] →
 Br b47
 (Br b54
 ((∀ w57 : World, w57 = w56.drew.alloc (.cells #[.int .i64 a2_1, .int .i64 x4, .int .i64 x5, .int .i64 x6, .int .i64 a2_2, .int .i64 (IntKind.wrap .i64 (x4 + 1)), .int .i64 x5, .int .i64 x6] 36) →
 Calls Try.prog n_queue_Queue_Put #[.pointer (some a0), .slice (some ⟨w56.drew.heap.size, 0, none⟩) 2 2] w57 (fun e w58 => ∃ (x59 : Int), e = .returned (.int .i64 x59) ∧ w58.heap[w.heap.size]? = w57.heap[w.heap.size]? ∧ w58.heap[w0.heap.size]? = w57.heap[w0.heap.size]? ∧ w58.heap[w1.heap.size]? = w57.heap[w1.heap.size]? ∧ w58.heap[w3.heap.size]? = w57.heap[w3.heap.size]? ∧ w58.heap[w8.heap.size]? = w57.heap[w8.heap.size]? ∧ w58.heap[w43.heap.size]? = w57.heap[w43.heap.size]? ∧ w58.heap[w50.heap.size]? = w57.heap[w50.heap.size]? ∧ 
 LoadL w58 (some ⟨w50.heap.size, 0, none⟩) 0 [.int .i64 x51, .int .i64 x52, .slice s53.a s53.n s53.c] ∧ ∀ w60 : World, w60 = w58.setRow w1.heap.size #[.int .i64 x51, .int .i64 x52, .slice s53.a s53.n s53.c] →
 R (.returned (.tuple #[.agg #[.int .i64 x51, .int .i64 x52, .slice s53.a s53.n s53.c], .bool ((x59 : Int) == (IntKind.wrap .i64 ((IntKind.wrap .i64 (0 + 1)) + 1)))])) w60)) ∧ (∀ w61 : World, w61 = w56.drew.alloc (.cells #[.int .i64 a2_1, .int .i64 x4, .int .i64 x5, .int .i64 x6, .int .i64 a2_2, .int .i64 (IntKind.wrap .i64 (x4 + 1)), .int .i64 x5, .int .i64 x6] 36) →
 Calls Try.prog n_queue_Queue_Put #[.pointer (some a0), .slice (some ⟨w56.drew.heap.size, 0, none⟩) 2 2] w61 (fun e w62 => ∃ (x63 : Int), e = .returned (.int .i64 x63) ∧ w62.heap[w.heap.size]? = w61.heap[w.heap.size]? ∧ w62.heap[w0.heap.size]? = w61.heap[w0.heap.size]? ∧ w62.heap[w1.heap.size]? = w61.heap[w1.heap.size]? ∧ w62.heap[w3.heap.size]? = w61.heap[w3.heap.size]? ∧ w62.heap[w8.heap.size]? = w61.heap[w8.heap.size]? ∧ w62.heap[w43.heap.size]? = w61.heap[w43.heap.size]? ∧ w62.heap[w50.heap.size]? = w61.heap[w50.heap.size]? ∧ 
 LoadL w62 (some ⟨w50.heap.size, 0, none⟩) 0 [.int .i64 x51, .int .i64 x52, .slice s53.a s53.n s53.c] ∧ ∀ w64 : World, w64 = w62.setRow w1.heap.size #[.int .i64 x51, .int .i64 x52, .slice s53.a s53.n s53.c] →
 R (.returned (.tuple #[.agg #[.int .i64 x51, .int .i64 x52, .slice s53.a s53.n s53.c], .bool ((x63 : Int) == (IntKind.wrap .i64 ((IntKind.wrap .i64 (0 + 1)) + 1)))])) w64)))
 ((∀ w65 : World, w65 = w56.drew.alloc (.cells #[.int .i64 a2_1, .int .i64 x4, .int .i64 x5, .int .i64 x6, .int .i64 a2_2, .int .i64 (IntKind.wrap .i64 (x4 + 1)), .int .i64 x5, .int .i64 x6] 36) →
 Calls Try.prog n_queue_Queue_Put #[.pointer (some a0), .slice (some ⟨w56.drew.heap.size, 0, none⟩) 2 2] w65 (fun e w66 => ∃ (x67 : Int), e = .returned (.int .i64 x67) ∧ w66.heap[w.heap.size]? = w65.heap[w.heap.size]? ∧ w66.heap[w0.heap.size]? = w65.heap[w0.heap.size]? ∧ w66.heap[w1.heap.size]? = w65.heap[w1.heap.size]? ∧ w66.heap[w3.heap.size]? = w65.heap[w3.heap.size]? ∧ w66.heap[w8.heap.size]? = w65.heap[w8.heap.size]? ∧ w66.heap[w43.heap.size]? = w65.heap[w43.heap.size]? ∧ w66.heap[w50.heap.size]? = w65.heap[w50.heap.size]? ∧ 
 LoadL w66 (some ⟨w50.heap.size, 0, none⟩) 0 [.int .i64 x51, .int .i64 x52, .slice s53.a s53.n s53.c] ∧ ∀ w68 : World, w68 = w66.setRow w1.heap.size #[.int .i64 x51, .int .i64 x52, .slice s53.a s53.n s53.c] →
 R (.returned (.tuple #[.agg #[.int .i64 x51, .int .i64 x52, .slice s53.a s53.n s53.c], .bool ((x67 : Int) == (IntKind.wrap .i64 (0 + 1)))])) w68)) ∧ (∀ w69 : World, w69 = w56.drew.alloc (.cells #[.int .i64 a2_1, .int .i64 x4, .int .i64 x5, .int .i64 x6, .int .i64 a2_2, .int .i64 (IntKind.wrap .i64 (x4 + 1)), .int .i64 x5, .int .i64 x6] 36) →
 Calls Try.prog n_queue_Queue_Put #[.pointer (some a0), .slice (some ⟨w56.drew.heap.size, 0, none⟩) 2 2] w69 (fun e w70 => ∃ (x71 : Int), e = .returned (.int .i64 x71) ∧ w70.heap[w.heap.size]? = w69.heap[w.heap.size]? ∧ w70.heap[w0.heap.size]? = w69.heap[w0.heap.size]? ∧ w70.heap[w1.heap.size]? = w69.heap[w1.heap.size]? ∧ w70.heap[w3.heap.size]? = w69.heap[w3.heap.size]? ∧ w70.heap[w8.heap.size]? = w69.heap[w8.heap.size]? ∧ w70.heap[w43.heap.size]? = w69.heap[w43.heap.size]? ∧ w70.heap[w50.heap.size]? = w69.heap[w50.heap.size]? ∧ 
 LoadL w70 (some ⟨w50.heap.size, 0, none⟩) 0 [.int .i64 x51, .int .i64 x52, .slice s53.a s53.n s53.c] ∧ ∀ w72 : World, w72 = w70.setRow w1.heap.size #[.int .i64 x51, .int .i64 x52, .slice s53.a s53.n s53.c] →
 R (.returned (.tuple #[.agg #[.int .i64 x51, .int .i64 x52, .slice s53.a s53.n s53.c], .bool ((x71 : Int) == (IntKind.wrap .i64 (0 + 1)))])) w72))))
 (Br b54
 ((∀ w73 : World, w73 = w56.drew.alloc (.cells #[.int .i64 a2_1, .int .i64 x4, .int .i64 x5, .int .i64 x6, .int .i64 a2_2, .int .i64 (IntKind.wrap .i64 (x4 + 1)), .int .i64 x5, .int .i64 x6] 36) →
 Calls Try.prog n_queue_Queue_Put #[.pointer (some a0), .slice (some ⟨w56.drew.heap.size, 0, none⟩) 2 2] w73 (fun e w74 => ∃ (x75 : Int), e = .returned (.int .i64 x75) ∧ w74.heap[w.heap.size]? = w73.heap[w.heap.size]? ∧ w74.heap[w0.heap.size]? = w73.heap[w0.heap.size]? ∧ w74.heap[w1.heap.size]? = w73.heap[w1.heap.size]? ∧ w74.heap[w3.heap.size]? = w73.heap[w3.heap.size]? ∧ w74.heap[w8.heap.size]? = w73.heap[w8.heap.size]? ∧ w74.heap[w43.heap.size]? = w73.heap[w43.heap.size]? ∧ w74.heap[w50.heap.size]? = w73.heap[w50.heap.size]? ∧ 
 LoadL w74 (some ⟨w50.heap.size, 0, none⟩) 0 [.int .i64 x51, .int .i64 x52, .slice s53.a s53.n s53.c] ∧ ∀ w76 : World, w76 = w74.setRow w1.heap.size #[.int .i64 x51, .int .i64 x52, .slice s53.a s53.n s53.c] →
 R (.returned (.tuple #[.agg #[.int .i64 x51, .int .i64 x52, .slice s53.a s53.n s53.c], .bool ((x75 : Int) == (IntKind.wrap .i64 (0 + 1)))])) w76)) ∧ (∀ w77 : World, w77 = w56.drew.alloc (.cells #[.int .i64 a2_1, .int .i64 x4, .int .i64 x5, .int .i64 x6, .int .i64 a2_2, .int .i64 (IntKind.wrap .i64 (x4 + 1)), .int .i64 x5, .int .i64 x6] 36) →
 Calls Try.prog n_queue_Queue_Put #[.pointer (some a0), .slice (some ⟨w56.drew.heap.size, 0, none⟩) 2 2] w77 (fun e w78 => ∃ (x79 : Int), e = .returned (.int .i64 x79) ∧ w78.heap[w.heap.size]? = w77.heap[w.heap.size]? ∧ w78.heap[w0.heap.size]? = w77.heap[w0.heap.size]? ∧ w78.heap[w1.heap.size]? = w77.heap[w1.heap.size]? ∧ w78.heap[w3.heap.size]? = w77.heap[w3.heap.size]? ∧ w78.heap[w8.heap.size]? = w77.heap[w8.heap.size]? ∧ w78.heap[w43.heap.size]? = w77.heap[w43.heap.size]? ∧ w78.heap[w50.heap.size]? = w77.heap[w50.heap.size]? ∧ 
 LoadL w78 (some ⟨w50.heap.size, 0, none⟩) 0 [.int .i64 x51, .int .i64 x52, .slice s53.a s53.n s53.c] ∧ ∀ w80 : World, w80 = w78.setRow w1.heap.size #[.int .i64 x51, .int .i64 x52, .slice s53.a s53.n s53.c] →
 R (.returned (.tuple #[.agg #[.int .i64 x51, .int .i64 x52, .slice s53.a s53.n s53.c], .bool ((x79 : Int) == (IntKind.wrap .i64 (0 + 1)))])) w80)))
 ((∀ w81 : World, w81 = w56.drew.alloc (.cells #[.int .i64 a2_1, .int .i64 x4, .int .i64 x5, .int .i64 x6, .int .i64 a2_2, .int .i64 (IntKind.wrap .i64 (x4 + 1)), .int .i64 x5, .int .i64 x6] 36) →
 Calls Try.prog n_queue_Queue_Put #[.pointer (some a0), .slice (some ⟨w56.drew.heap.size, 0, none⟩) 2 2] w81 (fun e w82 => ∃ (x83 : Int), e = .returned (.int .i64 x83) ∧ w82.heap[w.heap.size]? = w81.heap[w.heap.size]? ∧ w82.heap[w0.heap.size]? = w81.heap[w0.heap.size]? ∧ w82.heap[w1.heap.size]? = w81.heap[w1.heap.size]? ∧ w82.heap[w3.heap.size]? = w81.heap[w3.heap.size]? ∧ w82.heap[w8.heap.size]? = w81.heap[w8.heap.size]? ∧ w82.heap[w43.heap.size]? = w81.heap[w43.heap.size]? ∧ w82.heap[w50.heap.size]? = w81.heap[w50.heap.size]? ∧ 
 LoadL w82 (some ⟨w50.heap.size, 0, none⟩) 0 [.int .i64 x51, .int .i64 x52, .slice s53.a s53.n s53.c] ∧ ∀ w84 : World, w84 = w82.setRow w1.heap.size #[.int .i64 x51, .int .i64 x52, .slice s53.a s53.n s53.c] →
 R (.returned (.tuple #[.agg #[.int .i64 x51, .int .i64 x52, .slice s53.a s53.n s53.c], .bool ((x83 : Int) == 0)])) w84)) ∧ (∀ w85 : World, w85 = w56.drew.alloc (.cells #[.int .i64 a2_1, .int .i64 x4, .int .i64 x5, .int .i64 x6, .int .i64 a2_2, .int .i64 (IntKind.wrap .i64 (x4 + 1)), .int .i64 x5, .int .i64 x6] 36) →
 Calls Try.prog n_queue_Queue_Put #[.pointer (some a0), .slice (some ⟨w56.drew.heap.size, 0, none⟩) 2 2] w85 (fun e w86 => ∃ (x87 : Int), e = .returned (.int .i64 x87) ∧ w86.heap[w.heap.size]? = w85.heap[w.heap.size]? ∧ w86.heap[w0.heap.size]? = w85.heap[w0.heap.size]? ∧ w86.heap[w1.heap.size]? = w85.heap[w1.heap.size]? ∧ w86.heap[w3.heap.size]? = w85.heap[w3.heap.size]? ∧ w86.heap[w8.heap.size]? = w85.heap[w8.heap.size]? ∧ w86.heap[w43.heap.size]? = w85.heap[w43.heap.size]? ∧ w86.heap[w50.heap.size]? = w85.heap[w50.heap.size]? ∧ 
 LoadL w86 (some ⟨w50.heap.size, 0, none⟩) 0 [.int .i64 x51, .int .i64 x52, .slice s53.a s53.n s53.c] ∧ ∀ w88 : World, w88 = w86.setRow w1.heap.size #[.int .i64 x51, .int .i64 x52, .slice s53.a s53.n s53.c] →
 R (.returned (.tuple #[.agg #[.int .i64 x51, .int .i64 x52, .slice s53.a s53.n s53.c], .bool ((x87 : Int) == 0)])) w88))))))))))
theorem law17_does.vc {a0 a1_0 a1_1 a1_2 a2_0 a2_1 a2_2 a2_3 a2_4 a2_5 w} {R : Ending → World → Prop} (h : law17_does.pre a0 a1_0 a1_1 a1_2 a2_0 a2_1 a2_2 a2_3 a2_4 a2_5 w R) : Calls Try.prog n_law17_does #[.pointer (some a0), .agg #[.int .i64 a1_0, .int .i64 a1_1, .slice a1_2.a a1_2.n a1_2.c], .agg #[.int .i64 a2_0, .int .i64 a2_1, .int .i64 a2_2, .int .i64 a2_3, .int .i64 a2_4, .int .i64 a2_5]] w R :=
  calls_of_eq (an := ⟨[], [], []⟩) (args := [.pointer (some a0), .agg #[.int .i64 a1_0, .int .i64 a1_1, .slice a1_2.a a1_2.n a1_2.c], .agg #[.int .i64 a2_0, .int .i64 a2_1, .int .i64 a2_2, .int .i64 a2_3, .int .i64 a2_4, .int .i64 a2_5]]) Try.noNG Try.mixed Try.func17 h (by kernel_rfl)

/- breccia/breccialaw17.like  -/
def law17_like.pre (a0 : Addr) (a1_0 : Int) (a1_1 : Int) (a1_2 : Sl) (w : World) (R : Ending → World → Prop) : Prop :=
 ∀ w0 : World, w0 = w.alloc (.cells #[.int .i64 a1_0, .int .i64 a1_1, .slice a1_2.a a1_2.n a1_2.c] 43) →
 Calls Try.prog n_queue_Queue_All #[.pointer (some a0)] w0 (fun e w1 => ∃ (s2 : Sl), e = .returned (.slice s2.a s2.n s2.c) ∧ w1.heap[w.heap.size]? = w0.heap[w.heap.size]? ∧ 
 Br ((((s2.n : Nat) : Int) : Int) != ((a1_2.n : Nat) : Int))
 (R (.returned (.bool false)) w1.drew)
 (Calls Try.prog n_queue_Queue_Len #[.pointer (some a0)] w1.drew (fun e w3 => ∃ (x4 : Int), e = .returned (.int .i64 x4) ∧ w3.heap[w.heap.size]? = w1.drew.heap[w.heap.size]? ∧ 
 LoadL w3 (some ⟨w.heap.size, 2, none⟩) 0 [.slice a1_2.a a1_2.n a1_2.c] ∧ LoadL w3 (some ⟨w.heap.size, 2, none⟩) 0 [.slice a1_2.a a1_2.n a1_2.c] ∧ Br ((x4 : Int) != ((a1_2.n : Nat) : Int))
 (R (.returned (.bool false)) w3)
 (Calls Try.prog n_queue_Queue_Lost #[.pointer (some a0)] w3 (fun e w5 => ∃ (x6 : Int), e = .returned (.int .i64 x6) ∧ w5.heap[w.heap.size]? = w3.heap[w.heap.size]? ∧ 
 LoadL w5 (some ⟨w.heap.size, 1, none⟩) 0 [.int .i64 a1_1] ∧ LoadL w5 (some ⟨w.heap.size, 2, none⟩) 0 [.slice a1_2.a a1_2.n a1_2.c] ∧ LoadL w5 (some ⟨w.heap.size, 2, none⟩) 0 [.slice a1_2.a a1_2.n a1_2.c] ∧ Br ((x6 : Int) != a1_1)
 (R (.returned (.bool false)) w5)
 (∃ I7 : Nat → Int → World → Prop,
 (∃ n8, ([.int .i64 a1_0, .int .i64 a1_1, .slice a1_2.a a1_2.n a1_2.c] : List Value) = [.int .i64 a1_0, .int .i64 a1_1, .slice a1_2.a a1_2.n a1_2.c] ∧ I7 n8 (0) w5) ∧
 ∀ (n8 : Nat) (us9 : Nat → Value) (x10 : Int) (w11 : World), I7 n8 x10 w11 →
 Br (decide ((x10 : Int) < ((s2.n : Nat) : Int)))
 (InB s2.a x10 s2.n ∧ AndL (nnC (padd s2.a ((x10 : Int).toNat * 4))) (∃ (x13 : Int) (x14 : Int) (x15 : Int), LoadL w11 (padd (padd s2.a ((x10 : Int).toNat * 4)) 1) 0 [.int .i64 x13, .int .i64 x14, .int .i64 x15] ∧
 Calls Try.prog n_queue_Queue_At #[.pointer (some a0), .agg #[.int .i64 x13, .int .i64 x14, .int .i64 x15]] w11 (fun e w16 => ∃ (x17 : Int) (b18 : Bool), e = .returned (.tuple #[.int .i64 x17, .bool b18]) ∧ w16.heap[w.heap.size]? = w11.heap[w.heap.size]? ∧ 
 InB s2.a x10 s2.n ∧ AndL (nnC (padd s2.a ((x10 : Int).toNat * 4))) (∃ (x19 : Int), ld w16.drew (padd (padd s2.a ((x10 : Int).toNat * 4)) 0) = some (.int .i64 x19) ∧
 InB a1_2.a x10 a1_2.n ∧ AndL (nnC (padd a1_2.a ((x10 : Int).toNat * 4))) (∃ (x20 : Int), ld w16.drew (padd (padd a1_2.a ((x10 : Int).toNat * 4)) 0) = some (.int .i64 x20) ∧
 Br ((x19 : Int) != x20)
 (R (.returned (.bool false)) w16.drew)
 (InB s2.a x10 s2.n ∧ AndL (nnC (padd s2.a ((x10 : Int).toNat * 4))) (∃ (x21 : Int) (x22 : Int) (x23 : Int), LoadL w16.drew (padd (padd s2.a ((x10 : Int).toNat * 4)) 1) 0 [.int .i64 x21, .int .i64 x22, .int .i64 x23] ∧
 InB a1_2.a x10 a1_2.n ∧ AndL (nnC (padd a1_2.a ((x10 : Int).toNat * 4))) (∃ (x24 : Int) (x25 : Int) (x26 : Int), LoadL w16.drew (padd (padd a1_2.a ((x10 : Int).toNat * 4)) 1) 0 [.int .i64 x24, .int .i64 x25, .int .i64 x26] ∧
 Br (!(((x21 : Int) == x24) && (((x22 : Int) == x25) && ((x23 : Int) == x26))))
 (R (.returned (.bool false)) w16.drew)
 (InB s2.a x10 s2.n ∧ AndL (nnC (padd s2.a ((x10 : Int).toNat * 4))) (∃ (x27 : Int), ld w16.drew (padd (padd s2.a ((x10 : Int).toNat * 4)) 0) = some (.int .i64 x27) ∧
 Br ((x17 : Int) != x27)
 (R (.returned (.bool false)) w16.drew)
 (Br (!b18)
 (R (.returned (.bool false)) w16.drew)
 (∃ n12, n12 < n8 ∧ ([.int .i64 a1_0, .int .i64 a1_1, .slice a1_2.a a1_2.n a1_2.c] : List Value) = [.int .i64 a1_0, .int .i64 a1_1, .slice a1_2.a a1_2.n a1_2.c] ∧ I7 n12 ((IntKind.wrap .i64 (x10 + 1))) w16.drew))))))))))))
 (Calls Try.prog n_queue_Queue_Next #[.pointer (some a0)] w11 (fun e w28 => ∃ (x29 : Int) (x30 : Int) (x31 : Int) (x32 : Int) (b33 : Bool), e = .returned (.tuple #[.agg #[.int .i64 x29, .int .i64 x30, .int .i64 x31, .int .i64 x32], .bool b33]) ∧ w28.heap[w.heap.size]? = w11.heap[w.heap.size]? ∧ 
 ∀ w34 : World, w34 = w28.alloc (.cells #[.int .i64 0, .int .i64 0, .int .i64 0, .int .i64 0] 36) →
 ∀ w35 : World, w35 = w34.setRow w28.heap.size #[.int .i64 x29, .int .i64 x30, .int .i64 x31, .int .i64 x32] →
 Calls Try.prog n_queue_Queue_At #[.pointer (some a0), .agg #[.int .i64 99, .int .i64 0, .int .i64 0]] w35 (fun e w36 => ∃ (x37 : Int) (b38 : Bool), e = .returned (.tuple #[.int .i64 x37, .bool b38]) ∧ w36.heap[w.heap.size]? = w35.heap[w.heap.size]? ∧ w36.heap[w28.heap.size]? = w35.heap[w28.heap.size]? ∧ 
 Br b38
 (R (.returned (.bool false)) w36)
 (Br (!(b33 == (decide ((((s2.n : Nat) : Int) : Int) > 0))))
 (R (.returned (.bool false)) w36)
 (Br (!b33)
 (Br ((x29 : Int) == 0)
 (Calls Try.prog n_law17_small #[.agg #[.int .i64 0, .int .i64 0, .int .i64 0]] w36.drew (fun e w39 => ∃ (x40 : Int) (x41 : Int) (x42 : Int), e = .returned (.agg #[.int .i64 x40, .int .i64 x41, .int .i64 x42]) ∧ w39.heap[w.heap.size]? = w36.drew.heap[w.heap.size]? ∧ w39.heap[w28.heap.size]? = w36.drew.heap[w28.heap.size]? ∧ 
 LoadL w39 (some ⟨w28.heap.size, 1, none⟩) 0 [.int .i64 x30, .int .i64 x31, .int .i64 x32] ∧ LoadL w39 (some ⟨w28.heap.size, 0, none⟩) 0 [.int .i64 x29] ∧ R (.returned (.bool (((x30 : Int) == x40) && (((x31 : Int) == x41) && ((x32 : Int) == x42))))) w39))
 (R (.returned (.bool false)) w36.drew))
 (InB s2.a 0 s2.n ∧ AndL (nnC (padd s2.a ((0 : Int).toNat * 4))) (∃ (x43 : Int), ld w36.drew (padd (padd s2.a ((0 : Int).toNat * 4)) 0) = some (.int .i64 x43) ∧
 Br ((x29 : Int) == x43)
 (InB s2.a 0 s2.n ∧ AndL (nnC (padd s2.a ((0 : Int).toNat * 4))) (∃ (x44 : Int) (x45 : Int) (x46 : Int), LoadL w36.drew (padd (padd s2.a ((0 : Int).toNat * 4)) 1) 0 [.int .i64 x44, .int .i64 x45, .int .i64 x46] ∧
 R (.returned (.bool (((x30 : Int) == x44) && (((x31 : Int) == x45) && ((x32 : Int) == x46))))) w36.drew))
 (R (.returned (.bool false)) w36.drew))))))))))))))
theorem law17_like.vc {a0 a1_0 a1_1 a1_2 w} {R : Ending → World → Prop} (h : law17_like.pre a0 a1_0 a1_1 a1_2 w R) : Calls Try.prog n_law17_like #[.pointer (some a0), .agg #[.int .i64 a1_0, .int .i64 a1_1, .slice a1_2.a a1_2.n a1_2.c]] w R :=
  calls_of_eq (an := ⟨[(5, ⟨[(6, .int .i64)], [], []⟩)], [], []⟩) (args := [.pointer (some a0), .agg #[.int .i64 a1_0, .int .i64 a1_1, .slice a1_2.a a1_2.n a1_2.c]]) Try.noNG Try.mixed Try.func18 h (by kernel_rfl)

/- (*breccia/queue.Queue).At  -/
def queue_Queue_At.pre (a0 : Addr) (a1_0 : Int) (a1_1 : Int) (a1_2 : Int) (w : World) (R : Ending → World → Prop) : Prop :=
 ∀ w0 : World, w0 = w.alloc (.cells #[.int .i64 a1_0, .int .i64 a1_1, .int .i64 a1_2] 28) →
 ∃ (m1 : Option Nat), ld w0.drew (padd (some a0) 3) = some (.map m1) ∧
 ∃ (G2 : Value → Prop) (kvs3 : List (Value × Value)), KeyOk Try.prog 28 G2 ∧ MapIs G2 w0.drew m1 kvs3 ∧ G2 (.agg #[.int .i64 a1_0, .int .i64 a1_1, .int .i64 a1_2]) ∧ ∃ (x4 : Int), ∃ b5 : Bool, Look kvs3 (.agg #[.int .i64 a1_0, .int .i64 a1_1, .int .i64 a1_2]) (.int .i64 0) (.int .i64 x4) b5 ∧
 R (.returned (.tuple #[.int .i64 x4, .bool b5])) w0.drew
theorem queue_Queue_At.vc {a0 a1_0 a1_1 a1_2 w} {R : Ending → World → Prop} (h : queue_Queue_At.pre a0 a1_0 a1_1 a1_2 w R) : Calls Try.prog n_queue_Queue_At #[.pointer (some a0), .agg #[.int .i64 a1_0, .int .i64 a1_1, .int .i64 a1_2]] w R :=
  calls_of_eq (an := ⟨[], [], []⟩) (args := [.pointer (some a0), .agg #[.int .i64 a1_0, .int .i64 a1_1, .int .i64 a1_2]]) Try.noNG Try.mixed Try.func19 h (by kernel_rfl)

/- (*breccia/queue.Queue).Drop  -/
def queue_Queue_Drop.pre (a0 : Addr) (a1_0 : Int) (a1_1 : Int) (a1_2 : Int) (w : World) (R : Ending → World → Prop) : Prop :=
 ∀ w0 : World, w0 = w.alloc (.cells #[.int .i64 a1_0, .int .i64 a1_1, .int .i64 a1_2] 28) →
 ∃ (m1 : Option Nat), ld w0.drew (padd (some a0) 3) = some (.map m1) ∧
 ∃ (G2 : Value → Prop) (kvs3 : List (Value × Value)), KeyOk Try.prog 28 G2 ∧ MapIs G2 w0.drew m1 kvs3 ∧ G2 (.agg #[.int .i64 a1_0, .int .i64 a1_1, .int .i64 a1_2]) ∧ ∃ (x4 : Int), ∃ b5 : Bool, Look kvs3 (.agg #[.int .i64 a1_0, .int .i64 a1_1, .int .i64 a1_2]) (.int .i64 0) (.int .i64 x4) b5 ∧
 Br (!b5)
 (R (.returned (.bool false)) w0.drew)
 (∃ (m6 : Option Nat), ld w0.drew.drew (padd (some a0) 3) = some (.map m6) ∧
 ∃ (G7 : Value → Prop) (kvs8 : List (Value × Value)), KeyOk Try.prog 28 G7 ∧ (m6 : Option Nat).isSome = true ∧ MapIs G7 w0.drew.drew m6 kvs8 ∧ G7 (.agg #[.int .i64 a1_0, .int .i64 a1_1, .int .i64 a1_2]) ∧ ∀ w9 : World, Rec ((m6 : Option Nat).getD 0) w0.drew.drew w9 → MapIs G7 w9 m6 (delL kvs8 (.agg #[.int .i64 a1_0, .int .i64 a1_1, .int .i64 a1_2])) →
 ∃ (s10 : Sl), ld w9 (padd (some a0) 2) = some (.slice s10.a s10.n s10.c) ∧
 Calls Try.prog n_slices_DeleteFunc_Item #[.slice s10.a s10.n s10.c, .func (.func 30) #[] #[.pointer (some ⟨w.heap.size, 0, none⟩)]] w9 (fun e w11 => ∃ (s12 : Sl), e = .returned (.slice s12.a s12.n s12.c) ∧ 
 (true = true ∧ Wr w11 (padd (some a0) 2) 1) ∧ (∀ w13 : World, w13 = setP w11 (padd (some a0) 2) [.slice s12.a s12.n s12.c] →
 R (.returned (.bool true)) w13)))
theorem queue_Queue_Drop.vc {a0 a1_0 a1_1 a1_2 w} {R : Ending → World → Prop} (h : queue_Queue_Drop.pre a0 a1_0 a1_1 a1_2 w R) : Calls Try.prog n_queue_Queue_Drop #[.pointer (some a0), .agg #[.int .i64 a1_0, .int .i64 a1_1, .int .i64 a1_2]] w R :=
  calls_of_eq (an := ⟨[], [], []⟩) (args := [.pointer (some a0), .agg #[.int .i64 a1_0, .int .i64 a1_1, .int .i64 a1_2]]) Try.noNG Try.mixed Try.func20 h (by kernel_rfl)

/- (*breccia/queue.Queue).push  -/
def queue_Queue_push.pre (a0 : Addr) (a1_0 : Int) (a1_1 : Int) (a1_2 : Int) (a1_3 : Int) (w : World) (R : Ending → World → Prop) : Prop :=
 ∀ w0 : World, w0 = w.alloc (.cells #[.int .i64 a1_0, .int .i64 a1_1, .int .i64 a1_2, .int .i64 a1_3] 36) →
 ∃ (s1 : Sl), ld w0.drew (padd (some a0) 2) = some (.slice s1.a s1.n s1.c) ∧
 Calls Try.prog n_slices_BinarySearchFunc_Item #[.slice s1.a s1.n s1.c, .agg #[.int .i64 a1_0, .int .i64 a1_1, .int .i64 a1_2, .int .i64 a1_3], .func (.func 32) #[] #[]] w0.drew (fun e w2 => ∃ (x3 : Int) (b4 : Bool), e = .returned (.tuple #[.int .i64 x3, .bool b4]) ∧ w2.heap[w.heap.size]? = w0.drew.heap[w.heap.size]? ∧ 
 ∃ (s5 : Sl), ld w2.drew (padd (some a0) 2) = some (.slice s5.a s5.n s5.c) ∧
 ∀ w6 : World, w6 = w2.drew.alloc (.cells #[.int .i64 a1_0, .int .i64 a1_1, .int .i64 a1_2, .int .i64 a1_3] 36) →
 Calls Try.prog n_slices_Insert_Item #[.slice s5.a s5.n s5.c, .int .i64 x3, .slice (some ⟨w2.drew.heap.size, 0, none⟩) 1 1] w6 (fun e w7 => ∃ (s8 : Sl), e = .returned (.slice s8.a s8.n s8.c) ∧ w7.heap[w.heap.size]? = w6.heap[w.heap.size]? ∧ 
 (true = true ∧ Wr w7 (padd (some a0) 2) 1) ∧ pblk (padd (some a0) 2) ≠ some w.heap.size ∧ (∀ w9 : World, w9 = setP w7 (padd (some a0) 2) [.slice s8.a s8.n s8.c] →
 ∃ (m10 : Option Nat), ld w9.drew (padd (some a0) 3) = some (.map m10) ∧
 ∃ (G11 : Value → Prop) (kvs12 : List (Value × Value)), KeyOk Try.prog 28 G11 ∧ (m10 : Option Nat).isSome = true ∧ MapIs G11 w9.drew m10 kvs12 ∧ G11 (.agg #[.int .i64 a1_1, .int .i64 a1_2, .int .i64 a1_3]) ∧ ∀ w13 : World, Rec ((m10 : Option Nat).getD 0) w9.drew w13 → MapIs G11 w13 m10 (insL kvs12 (.agg #[.int .i64 a1_1, .int .i64 a1_2, .int .i64 a1_3]) (.int .i64 a1_0)) →
 R (.returned (.tuple #[])) w13)))
theorem queue_Queue_push.vc {a0 a1_0 a1_1 a1_2 a1_3 w} {R : Ending → World → Prop} (h : queue_Queue_push.pre a0 a1_0 a1_1 a1_2 a1_3 w R) : Calls Try.prog n_queue_Queue_push #[.pointer (some a0), .agg #[.int .i64 a1_0, .int .i64 a1_1, .int .i64 a1_2, .int .i64 a1_3]] w R :=
  calls_of_eq (an := ⟨[], [], []⟩) (args := [.pointer (some a0), .agg #[.int .i64 a1_0, .int .i64 a1_1, .int .i64 a1_2, .int .i64 a1_3]]) Try.noNG Try.mixed Try.func21 h (by kernel_rfl)

/- slices.Delete[[]breccia/queue.Item,breccia/queue.Item]  -/
def slices_Delete_Item.pre (a0 : Sl) (a1 : Int) (a2 : Int) (w : World) (R : Ending → World → Prop) : Prop :=
 (0 : Int) ≤ ((a0.n : Nat) : Int) ∧ ((a0.n : Nat) : Int) ≤ ((a0.c : Nat) : Int) ∧ (0 : Int) ≤ a2 ∧ (a2 : Int) ≤ ((a0.n : Nat) : Int) ∧ (0 : Int) ≤ a1 ∧ (a1 : Int) ≤ a2 ∧ Br ((a1 : Int) == a2)
 (R (.returned (.slice a0.a a0.n a0.c)) w)
 ((0 : Int) ≤ a1 ∧ a1 ≤ ((a0.c : Nat) : Int) ∧ (0 : Int) ≤ a2 ∧ a2 ≤ ((a0.n : Nat) : Int) ∧ ∃ l0 : List Value, Rd w.drew (slBase a0.a ((a2 : Int).toNat) (a0.c) 4) l0 ∧ AppPre 32 4 w.drew ⟨(slBase a0.a (0) (a0.c) 4), ((a1 : Int).toNat - 0), (a0.c - 0)⟩ (a0.n - (a2 : Int).toNat) l0 ∧ ∀ (s1 : Sl) (w2 : World), AppRes 36 4 w.drew ⟨(slBase a0.a (0) (a0.c) 4), ((a1 : Int).toNat - 0), (a0.c - 0)⟩ (a0.n - (a2 : Int).toNat) l0 s1 w2 → 
 (0 : Int) ≤ ((a0.n : Nat) : Int) ∧ ((a0.n : Nat) : Int) ≤ ((s1.c : Nat) : Int) ∧ (0 : Int) ≤ ((s1.n : Nat) : Int) ∧ (((s1.n : Nat) : Int) : Int) ≤ ((a0.n : Nat) : Int) ∧ Wr w2 (slBase s1.a ((((s1.n : Nat) : Int) : Int).toNat) (s1.c) 4) (((((a0.n : Nat) : Int) : Int).toNat - (((s1.n : Nat) : Int) : Int).toNat) * 4) ∧ (∀ w3 : World, w3 = setP w2 (slBase s1.a ((((s1.n : Nat) : Int) : Int).toNat) (s1.c) 4) (zeroRows [.int .i64 0, .int .i64 0, .int .i64 0, .int .i64 0] ((((a0.n : Nat) : Int) : Int).toNat - (((s1.n : Nat) : Int) : Int).toNat)) →
 R (.returned (.slice s1.a s1.n s1.c)) w3))
theorem slices_Delete_Item.vc {a0 a1 a2 w} {R : Ending → World → Prop} (h : slices_Delete_Item.pre a0 a1 a2 w R) : Calls Try.prog n_slices_Delete_Item #[.slice a0.a a0.n a0.c, .int .i64 a1, .int .i64 a2] w R :=
  calls_of_eq (an := ⟨[], [], []⟩) (args := [.slice a0.a a0.n a0.c, .int .i64 a1, .int .i64 a2]) Try.noNG Try.mixed Try.func22 h (by kernel_rfl)

/- breccia/breccialaw17.small  -/
def law17_small.pre (a0_0 : Int) (a0_1 : Int) (a0_2 : Int) (w : World) (R : Ending → World → Prop) : Prop :=
 ∀ w0 : World, w0 = w.alloc (.cells #[.int .i64 a0_0, .int .i64 a0_1, .int .i64 a0_2] 28) →
 ∀ w1 : World, w1 = w0.alloc (.cells #[.int .i64 0, .int .i64 0, .int .i64 0] 28) →
 Calls Try.prog n_ref01_Around #[.int .i64 a0_0, .int .i64 3] w1.drew (fun e w2 => ∃ (x3 : Int), e = .returned (.int .i64 x3) ∧ w2.heap[w.heap.size]? = w1.drew.heap[w.heap.size]? ∧ w2.heap[w0.heap.size]? = w1.drew.heap[w0.heap.size]? ∧ 
 LoadL w2 (some ⟨w.heap.size, 2, none⟩) 0 [.int .i64 a0_2] ∧ LoadL w2 (some ⟨w.heap.size, 1, none⟩) 0 [.int .i64 a0_1] ∧ Calls Try.prog n_ref01_Around #[.int .i64 a0_1, .int .i64 3] w2 (fun e w4 => ∃ (x5 : Int), e = .returned (.int .i64 x5) ∧ w4.heap[w.heap.size]? = w2.heap[w.heap.size]? ∧ w4.heap[w0.heap.size]? = w2.heap[w0.heap.size]? ∧ 
 LoadL w4 (some ⟨w.heap.size, 2, none⟩) 0 [.int .i64 a0_2] ∧ Calls Try.prog n_ref01_Around #[.int .i64 a0_2, .int .i64 3] w4 (fun e w6 => ∃ (x7 : Int), e = .returned (.int .i64 x7) ∧ w6.heap[w.heap.size]? = w4.heap[w.heap.size]? ∧ w6.heap[w0.heap.size]? = w4.heap[w0.heap.size]? ∧ 
 ∀ w8 : World, w8 = w6.setRow w0.heap.size #[.int .i64 x3, .int .i64 x5, .int .i64 x7] →
 R (.returned (.agg #[.int .i64 x3, .int .i64 x5, .int .i64 x7])) w8)))
theorem law17_small.vc {a0_0 a0_1 a0_2 w} {R : Ending → World → Prop} (h : law17_small.pre a0_0 a0_1 a0_2 w R) : Calls Try.prog n_law17_small #[.agg #[.int .i64 a0_0, .int .i64 a0_1, .int .i64 a0_2]] w R :=
  calls_of_eq (an := ⟨[], [], []⟩) (args := [.agg #[.int .i64 a0_0, .int .i64 a0_1, .int .i64 a0_2]]) Try.noNG Try.mixed Try.func23 h (by kernel_rfl)

/- breccia/brecciaref17.Add  -/
def ref17_Add.pre (a0_0 : Int) (a0_1 : Int) (a0_2 : Sl) (a1_0 : Int) (a1_1 : Int) (a1_2 : Int) (a2 : Int) (w : World) (R : Ending → World → Prop) : Prop :=
 ∀ w0 : World, w0 = w.alloc (.cells #[.int .i64 a0_0, .int .i64 a0_1, .slice a0_2.a a0_2.n a0_2.c] 43) →
 ∀ w1 : World, w1 = w0.alloc (.cells #[.int .i64 a1_0, .int .i64 a1_1, .int .i64 a1_2] 28) →
 ∀ w2 : World, w2 = w1.alloc (.cells #[.int .i64 0, .int .i64 0, .slice none 0 0] 43) →
 Calls Try.prog n_ref17_Find #[.agg #[.int .i64 a0_0, .int .i64 a0_1, .slice a0_2.a a0_2.n a0_2.c], .agg #[.int .i64 a1_0, .int .i64 a1_1, .int .i64 a1_2]] w2 (fun e w3 => ∃ (x4 : Int), e = .returned (.int .i64 x4) ∧ w3.heap[w.heap.size]? = w2.heap[w.heap.size]? ∧ w3.heap[w0.heap.size]? = w2.heap[w0.heap.size]? ∧ w3.heap[w1.heap.size]? = w2.heap[w1.heap.size]? ∧ 
 Br (decide ((x4 : Int) ≥ 0))
 (InB a0_2.a x4 a0_2.n ∧ AndL (nnC (padd a0_2.a ((x4 : Int).toNat * 4))) (∃ (x5 : Int), ld w3 (padd (padd a0_2.a ((x4 : Int).toNat * 4)) 0) = some (.int .i64 x5) ∧
 Br (decide ((x5 : Int) ≤ a2))
 (∀ w6 : World, w6 = w3.setRow w1.heap.size #[.int .i64 a0_0, .int .i64 a0_1, .slice a0_2.a a0_2.n a0_2.c] →
 R (.returned (.tuple #[.agg #[.int .i64 a0_0, .int .i64 a0_1, .slice a0_2.a a0_2.n a0_2.c], .bool false])) w6)
 (Calls Try.prog n_ref17_Drop #[.agg #[.int .i64 a0_0, .int .i64 a0_1, .slice a0_2.a a0_2.n a0_2.c], .agg #[.int .i64 a1_0, .int .i64 a1_1, .int .i64 a1_2]] w3 (fun e w7 => ∃ (x8 : Int) (x9 : Int) (s10 : Sl) (b11 : Bool), e = .returned (.tuple #[.agg #[.int .i64 x8, .int .i64 x9, .slice s10.a s10.n s10.c], .bool b11]) ∧ w7.heap[w.heap.size]? = w3.heap[w.heap.size]? ∧ w7.heap[w0.heap.size]? = w3.heap[w0.heap.size]? ∧ w7.heap[w1.heap.size]? = w3.heap[w1.heap.size]? ∧ 
 ∀ w12 : World, w12 = w7.alloc (.cells #[.int .i64 0, .int .i64 0, .slice none 0 0] 43) →
 ∀ w13 : World, w13 = w12.setRow w7.heap.size #[.int .i64 x8, .int .i64 x9, .slice s10.a s10.n s10.c] →
 ∀ w14 : World, w14 = w13.setRow w.heap.size #[.int .i64 x8, .int .i64 x9, .slice s10.a s10.n s10.c] →
 Br (decide ((x4 : Int) < 0))
 (Br (decide ((((s10.n : Nat) : Int) : Int) ≥ x8))
 (∀ w15 : World, w15 = w14.setRow w.heap.size #[.int .i64 x8, .int .i64 (IntKind.wrap .i64 (x9 + 1)), .slice s10.a s10.n s10.c] →
 ∀ w16 : World, w16 = w15.setRow w1.heap.size #[.int .i64 x8, .int .i64 (IntKind.wrap .i64 (x9 + 1)), .slice s10.a s10.n s10.c] →
 R (.returned (.tuple #[.agg #[.int .i64 x8, .int .i64 (IntKind.wrap .i64 (x9 + 1)), .slice s10.a s10.n s10.c], .bool false])) w16)
 (∃ I17 : Nat → Int → World → Prop,
 (∃ n18, ([.int .i64 x8, .int .i64 x9, .slice s10.a s10.n s10.c] : List Value) = [.int .i64 x8, .int .i64 x9, .slice s10.a s10.n s10.c] ∧ ([.int .i64 a1_0, .int .i64 a1_1, .int .i64 a1_2] : List Value) = [.int .i64 a1_0, .int .i64 a1_1, .int .i64 a1_2] ∧ ([.int .i64 0, .int .i64 0, .slice none 0 0] : List Value) = [.int .i64 0, .int .i64 0, .slice none 0 0] ∧ ([.int .i64 x8, .int .i64 x9, .slice s10.a s10.n s10.c] : List Value) = [.int .i64 x8, .int .i64 x9, .slice s10.a s10.n s10.c] ∧ I17 n18 (((s10.n : Nat) : Int)) w14) ∧
 ∀ (n18 : Nat) (us19 : Nat → Value) (x20 : Int) (w21 : World), I17 n18 x20 w21 →
 Br (decide ((x20 : Int) > 0))
 (InB s10.a (IntKind.wrap .i64 (x20 - 1)) s10.n ∧ AndL (nnC (padd s10.a (((IntKind.wrap .i64 (x20 - 1)) : Int).toNat * 4))) (∃ (x23 : Int), ld w21 (padd (padd s10.a (((IntKind.wrap .i64 (x20 - 1)) : Int).toNat * 4)) 0) = some (.int .i64 x23) ∧
 Br (decide ((x23 : Int) > a2))
 (∃ n22, n22 < n18 ∧ ([.int .i64 x8, .int .i64 x9, .slice s10.a s10.n s10.c] : List Value) = [.int .i64 x8, .int .i64 x9, .slice s10.a s10.n s10.c] ∧ ([.int .i64 a1_0, .int .i64 a1_1, .int .i64 a1_2] : List Value) = [.int .i64 a1_0, .int .i64 a1_1, .int .i64 a1_2] ∧ ([.int .i64 0, .int .i64 0, .slice none 0 0] : List Value) = [.int .i64 0, .int .i64 0, .slice none 0 0] ∧ ([.int .i64 x8, .int .i64 x9, .slice s10.a s10.n s10.c] : List Value) = [.int .i64 x8, .int .i64 x9, .slice s10.a s10.n s10.c] ∧ I17 n22 ((IntKind.wrap .i64 (x20 - 1))) w21)
 ((0 : Int) ≤ x20 ∧ x20 ≤ ((s10.c : Nat) : Int) ∧ ∃ l24 : List Value, Rd w21 (slBase s10.a (0) (s10.c) 4) l24 ∧ AppPre 32 4 w21 ⟨none, 0, 0⟩ ((x20 : Int).toNat - 0) l24 ∧ ∀ (s25 : Sl) (w26 : World), AppRes 67 4 w21 ⟨none, 0, 0⟩ ((x20 : Int).toNat - 0) l24 s25 w26 → w26.heap[w.heap.size]? = w21.heap[w.heap.size]? ∧ w26.heap[w0.heap.size]? = w21.heap[w0.heap.size]? ∧ w26.heap[w1.heap.size]? = w21.heap[w1.heap.size]? ∧ w26.heap[w7.heap.size]? = w21.heap[w7.heap.size]? ∧ 
 ∀ w27 : World, w27 = w26.alloc (.cells #[.int .i64 a2, .int .i64 a1_0, .int .i64 a1_1, .int .i64 a1_2] 67) →
 AppPre 32 4 w27 ⟨s25.a, s25.n, s25.c⟩ 1 [.int .i64 a2, .int .i64 a1_0, .int .i64 a1_1, .int .i64 a1_2] ∧ ∀ (s28 : Sl) (w29 : World), AppRes 67 4 w27 ⟨s25.a, s25.n, s25.c⟩ 1 [.int .i64 a2, .int .i64 a1_0, .int .i64 a1_1, .int .i64 a1_2] s28 w29 → w29.heap[w.heap.size]? = w27.heap[w.heap.size]? ∧ w29.heap[w0.heap.size]? = w27.heap[w0.heap.size]? ∧ w29.heap[w1.heap.size]? = w27.heap[w1.heap.size]? ∧ w29.heap[w7.heap.size]? = w27.heap[w7.heap.size]? ∧ w29.heap[w26.heap.size]? = w27.heap[w26.heap.size]? ∧ 
 (0 : Int) ≤ x20 ∧ x20 ≤ ((s10.n : Nat) : Int) ∧ ∃ l30 : List Value, Rd w29 (slBase s10.a ((x20 : Int).toNat) (s10.c) 4) l30 ∧ AppPre 32 4 w29 ⟨s28.a, s28.n, s28.c⟩ (s10.n - (x20 : Int).toNat) l30 ∧ ∀ (s31 : Sl) (w32 : World), AppRes 67 4 w29 ⟨s28.a, s28.n, s28.c⟩ (s10.n - (x20 : Int).toNat) l30 s31 w32 → w32.heap[w.heap.size]? = w29.heap[w.heap.size]? ∧ w32.heap[w0.heap.size]? = w29.heap[w0.heap.size]? ∧ w32.heap[w1.heap.size]? = w29.heap[w1.heap.size]? ∧ w32.heap[w7.heap.size]? = w29.heap[w7.heap.size]? ∧ w32.heap[w26.heap.size]? = w29.heap[w26.heap.size]? ∧ 
 ∀ w33 : World, w33 = w32.setRow w.heap.size #[.int .i64 x8, .int .i64 x9, .slice s31.a s31.n s31.c] →
 ∀ w34 : World, w34 = w33.setRow w1.heap.size #[.int .i64 x8, .int .i64 x9, .slice s31.a s31.n s31.c] →
 R (.returned (.tuple #[.agg #[.int .i64 x8, .int .i64 x9, .slice s31.a s31.n s31.c], .bool true])) w34)))
 ((0 : Int) ≤ x20 ∧ x20 ≤ ((s10.c : Nat) : Int) ∧ ∃ l35 : List Value, Rd w21 (slBase s10.a (0) (s10.c) 4) l35 ∧ AppPre 32 4 w21 ⟨none, 0, 0⟩ ((x20 : Int).toNat - 0) l35 ∧ ∀ (s36 : Sl) (w37 : World), AppRes 67 4 w21 ⟨none, 0, 0⟩ ((x20 : Int).toNat - 0) l35 s36 w37 → w37.heap[w.heap.size]? = w21.heap[w.heap.size]? ∧ w37.heap[w0.heap.size]? = w21.heap[w0.heap.size]? ∧ w37.heap[w1.heap.size]? = w21.heap[w1.heap.size]? ∧ w37.heap[w7.heap.size]? = w21.heap[w7.heap.size]? ∧ 
 ∀ w38 : World, w38 = w37.alloc (.cells #[.int .i64 a2, .int .i64 a1_0, .int .i64 a1_1, .int .i64 a1_2] 67) →
 AppPre 32 4 w38 ⟨s36.a, s36.n, s36.c⟩ 1 [.int .i64 a2, .int .i64 a1_0, .int .i64 a1_1, .int .i64 a1_2] ∧ ∀ (s39 : Sl) (w40 : World), AppRes 67 4 w38 ⟨s36.a, s36.n, s36.c⟩ 1 [.int .i64 a2, .int .i64 a1_0, .int .i64 a1_1, .int .i64 a1_2] s39 w40 → w40.heap[w.heap.size]? = w38.heap[w.heap.size]? ∧ w40.heap[w0.heap.size]? = w38.heap[w0.heap.size]? ∧ w40.heap[w1.heap.size]? = w38.heap[w1.heap.size]? ∧ w40.heap[w7.heap.size]? = w38.heap[w7.heap.size]? ∧ w40.heap[w37.heap.size]? = w38.heap[w37.heap.size]? ∧ 
 (0 : Int) ≤ x20 ∧ x20 ≤ ((s10.n : Nat) : Int) ∧ ∃ l41 : List Value, Rd w40 (slBase s10.a ((x20 : Int).toNat) (s10.c) 4) l41 ∧ AppPre 32 4 w40 ⟨s39.a, s39.n, s39.c⟩ (s10.n - (x20 : Int).toNat) l41 ∧ ∀ (s42 : Sl) (w43 : World), AppRes 67 4 w40 ⟨s39.a, s39.n, s39.c⟩ (s10.n - (x20 : Int).toNat) l41 s42 w43 → w43.heap[w.heap.size]? = w40.heap[w.heap.size]? ∧ w43.heap[w0.heap.size]? = w40.heap[w0.heap.size]? ∧ w43.heap[w1.heap.size]? = w40.heap[w1.heap.size]? ∧ w43.heap[w7.heap.size]? = w40.heap[w7.heap.size]? ∧ w43.heap[w37.heap.size]? = w40.heap[w37.heap.size]? ∧ 
 ∀ w44 : World, w44 = w43.setRow w.heap.size #[.int .i64 x8, .int .i64 x9, .slice s42.a s42.n s42.c] →
 ∀ w45 : World, w45 = w44.setRow w1.heap.size #[.int .i64 x8, .int .i64 x9, .slice s42.a s42.n s42.c] →
 R (.returned (.tuple #[.agg #[.int .i64 x8, .int .i64 x9, .slice s42.a s42.n s42.c], .bool true])) w45)))
 (∃ I46 : Nat → Int → World → Prop,
 (∃ n47, ([.int .i64 x8, .int .i64 x9, .slice s10.a s10.n s10.c] : List Value) = [.int .i64 x8, .int .i64 x9, .slice s10.a s10.n s10.c] ∧ ([.int .i64 a1_0, .int .i64 a1_1, .int .i64 a1_2] : List Value) = [.int .i64 a1_0, .int .i64 a1_1, .int .i64 a1_2] ∧ ([.int .i64 0, .int .i64 0, .slice none 0 0] : List Value) = [.int .i64 0, .int .i64 0, .slice none 0 0] ∧ ([.int .i64 x8, .int .i64 x9, .slice s10.a s10.n s10.c] : List Value) = [.int .i64 x8, .int .i64 x9, .slice s10.a s10.n s10.c] ∧ I46 n47 (((s10.n : Nat) : Int)) w14) ∧
 ∀ (n47 : Nat) (us48 : Nat → Value) (x49 : Int) (w50 : World), I46 n47 x49 w50 →
 Br (decide ((x49 : Int) > 0))
 (InB s10.a (IntKind.wrap .i64 (x49 - 1)) s10.n ∧ AndL (nnC (padd s10.a (((IntKind.wrap .i64 (x49 - 1)) : Int).toNat * 4))) (∃ (x52 : Int), ld w50 (padd (padd s10.a (((IntKind.wrap .i64 (x49 - 1)) : Int).toNat * 4)) 0) = some (.int .i64 x52) ∧
 Br (decide ((x52 : Int) > a2))
 (∃ n51, n51 < n47 ∧ ([.int .i64 x8, .int .i64 x9, .slice s10.a s10.n s10.c] : List Value) = [.int .i64 x8, .int .i64 x9, .slice s10.a s10.n s10.c] ∧ ([.int .i64 a1_0, .int .i64 a1_1, .int .i64 a1_2] : List Value) = [.int .i64 a1_0, .int .i64 a1_1, .int .i64 a1_2] ∧ ([.int .i64 0, .int .i64 0, .slice none 0 0] : List Value) = [.int .i64 0, .int .i64 0, .slice none 0 0] ∧ ([.int .i64 x8, .int .i64 x9, .slice s10.a s10.n s10.c] : List Value) = [.int .i64 x8, .int .i64 x9, .slice s10.a s10.n s10.c] ∧ I46 n51 ((IntKind.wrap .i64 (x49 - 1))) w50)
 ((0 : Int) ≤ x49 ∧ x49 ≤ ((s10.c : Nat) : Int) ∧ ∃ l53 : List Value, Rd w50 (slBase s10.a (0) (s10.c) 4) l53 ∧ AppPre 32 4 w50 ⟨none, 0, 0⟩ ((x49 : Int).toNat - 0) l53 ∧ ∀ (s54 : Sl) (w55 : World), AppRes 67 4 w50 ⟨none, 0, 0⟩ ((x49 : Int).toNat - 0) l53 s54 w55 → w55.heap[w.heap.size]? = w50.heap[w.heap.size]? ∧ w55.heap[w0.heap.size]? = w50.heap[w0.heap.size]? ∧ w55.heap[w1.heap.size]? = w50.heap[w1.heap.size]? ∧ w55.heap[w7.heap.size]? = w50.heap[w7.heap.size]? ∧ 
 ∀ w56 : World, w56 = w55.alloc (.cells #[.int .i64 a2, .int .i64 a1_0, .int .i64 a1_1, .int .i64 a1_2] 67) →
 AppPre 32 4 w56 ⟨s54.a, s54.n, s54.c⟩ 1 [.int .i64 a2, .int .i64 a1_0, .int .i64 a1_1, .int .i64 a1_2] ∧ ∀ (s57 : Sl) (w58 : World), AppRes 67 4 w56 ⟨s54.a, s54.n, s54.c⟩ 1 [.int .i64 a2, .int .i64 a1_0, .int .i64 a1_1, .int .i64 a1_2] s57 w58 → w58.heap[w.heap.size]? = w56.heap[w.heap.size]? ∧ w58.heap[w0.heap.size]? = w56.heap[w0.heap.size]? ∧ w58.heap[w1.heap.size]? = w56.heap[w1.heap.size]? ∧ w58.heap[w7.heap.size]? = w56.heap[w7.heap.size]? ∧ w58.heap[w55.heap.size]? = w56.heap[w55.heap.size]? ∧ 
 (0 : Int) ≤ x49 ∧ x49 ≤ ((s10.n : Nat) : Int) ∧ ∃ l59 : List Value, Rd w58 (slBase s10.a ((x49 : Int).toNat) (s10.c) 4) l59 ∧ AppPre 32 4 w58 ⟨s57.a, s57.n, s57.c⟩ (s10.n - (x49 : Int).toNat) l59 ∧ ∀ (s60 : Sl) (w61 : World), AppRes 67 4 w58 ⟨s57.a, s57.n, s57.c⟩ (s10.n - (x49 : Int).toNat) l59 s60 w61 → w61.heap[w.heap.size]? = w58.heap[w.heap.size]? ∧ w61.heap[w0.heap.size]? = w58.heap[w0.heap.size]? ∧ w61.heap[w1.heap.size]? = w58.heap[w1.heap.size]? ∧ w61.heap[w7.heap.size]? = w58.heap[w7.heap.size]? ∧ w61.heap[w55.heap.size]? = w58.heap[w55.heap.size]? ∧ 
 ∀ w62 : World, w62 = w61.setRow w.heap.size #[.int .i64 x8, .int .i64 x9, .slice s60.a s60.n s60.c] →
 ∀ w63 : World, w63 = w62.setRow w1.heap.size #[.int .i64 x8, .int .i64 x9, .slice s60.a s60.n s60.c] →
 R (.returned (.tuple #[.agg #[.int .i64 x8, .int .i64 x9, .slice s60.a s60.n s60.c], .bool true])) w63)))
 ((0 : Int) ≤ x49 ∧ x49 ≤ ((s10.c : Nat) : Int) ∧ ∃ l64 : List Value, Rd w50 (slBase s10.a (0) (s10.c) 4) l64 ∧ AppPre 32 4 w50 ⟨none, 0, 0⟩ ((x49 : Int).toNat - 0) l64 ∧ ∀ (s65 : Sl) (w66 : World), AppRes 67 4 w50 ⟨none, 0, 0⟩ ((x49 : Int).toNat - 0) l64 s65 w66 → w66.heap[w.heap.size]? = w50.heap[w.heap.size]? ∧ w66.heap[w0.heap.size]? = w50.heap[w0.heap.size]? ∧ w66.heap[w1.heap.size]? = w50.heap[w1.heap.size]? ∧ w66.heap[w7.heap.size]? = w50.heap[w7.heap.size]? ∧ 
 ∀ w67 : World, w67 = w66.alloc (.cells #[.int .i64 a2, .int .i64 a1_0, .int .i64 a1_1, .int .i64 a1_2] 67) →
 AppPre 32 4 w67 ⟨s65.a, s65.n, s65.c⟩ 1 [.int .i64 a2, .int .i64 a1_0, .int .i64 a1_1, .int .i64 a1_2] ∧ ∀ (s68 : Sl) (w69 : World), AppRes 67 4 w67 ⟨s65.a, s65.n, s65.c⟩ 1 [.int .i64 a2, .int .i64 a1_0, .int .i64 a1_1, .int .i64 a1_2] s68 w69 → w69.heap[w.heap.size]? = w67.heap[w.heap.size]? ∧ w69.heap[w0.heap.size]? = w67.heap[w0.heap.size]? ∧ w69.heap[w1.heap.size]? = w67.heap[w1.heap.size]? ∧ w69.heap[w7.heap.size]? = w67.heap[w7.heap.size]? ∧ w69.heap[w66.heap.size]? = w67.heap[w66.heap.size]? ∧ 
 (0 : Int) ≤ x49 ∧ x49 ≤ ((s10.n : Nat) : Int) ∧ ∃ l70 : List Value, Rd w69 (slBase s10.a ((x49 : Int).toNat) (s10.c) 4) l70 ∧ AppPre 32 4 w69 ⟨s68.a, s68.n, s68.c⟩ (s10.n - (x49 : Int).toNat) l70 ∧ ∀ (s71 : Sl) (w72 : World), AppRes 67 4 w69 ⟨s68.a, s68.n, s68.c⟩ (s10.n - (x49 : Int).toNat) l70 s71 w72 → w72.heap[w.heap.size]? = w69.heap[w.heap.size]? ∧ w72.heap[w0.heap.size]? = w69.heap[w0.heap.size]? ∧ w72.heap[w1.heap.size]? = w69.heap[w1.heap.size]? ∧ w72.heap[w7.heap.size]? = w69.heap[w7.heap.size]? ∧ w72.heap[w66.heap.size]? = w69.heap[w66.heap.size]? ∧ 
 ∀ w73 : World, w73 = w72.setRow w.heap.size #[.int .i64 x8, .int .i64 x9, .slice s71.a s71.n s71.c] →
 ∀ w74 : World, w74 = w73.setRow w1.heap.size #[.int .i64 x8, .int .i64 x9, .slice s71.a s71.n s71.c] →
 R (.returned (.tuple #[.agg #[.int .i64 x8, .int .i64 x9, .slice s71.a s71.n s71.c], .bool true])) w74))))))
 (Br (decide ((x4 : Int) < 0))
 (Br (decide ((((a0_2.n : Nat) : Int) : Int) ≥ a0_0))
 (∀ w75 : World, w75 = w3.setRow w.heap.size #[.int .i64 a0_0, .int .i64 (IntKind.wrap .i64 (a0_1 + 1)), .slice a0_2.a a0_2.n a0_2.c] →
 ∀ w76 : World, w76 = w75.setRow w1.heap.size #[.int .i64 a0_0, .int .i64 (IntKind.wrap .i64 (a0_1 + 1)), .slice a0_2.a a0_2.n a0_2.c] →
 R (.returned (.tuple #[.agg #[.int .i64 a0_0, .int .i64 (IntKind.wrap .i64 (a0_1 + 1)), .slice a0_2.a a0_2.n a0_2.c], .bool false])) w76)
 (∃ I77 : Nat → Int → World → Prop,
 (∃ n78, ([.int .i64 a0_0, .int .i64 a0_1, .slice a0_2.a a0_2.n a0_2.c] : List Value) = [.int .i64 a0_0, .int .i64 a0_1, .slice a0_2.a a0_2.n a0_2.c] ∧ ([.int .i64 a1_0, .int .i64 a1_1, .int .i64 a1_2] : List Value) = [.int .i64 a1_0, .int .i64 a1_1, .int .i64 a1_2] ∧ ([.int .i64 0, .int .i64 0, .slice none 0 0] : List Value) = [.int .i64 0, .int .i64 0, .slice none 0 0] ∧ I77 n78 (((a0_2.n : Nat) : Int)) w3) ∧
 ∀ (n78 : Nat) (us79 : Nat → Value) (x80 : Int) (w81 : World), I77 n78 x80 w81 →
 Br (decide ((x80 : Int) > 0))
 (InB a0_2.a (IntKind.wrap .i64 (x80 - 1)) a0_2.n ∧ AndL (nnC (padd a0_2.a (((IntKind.wrap .i64 (x80 - 1)) : Int).toNat * 4))) (∃ (x83 : Int), ld w81 (padd (padd a0_2.a (((IntKind.wrap .i64 (x80 - 1)) : Int).toNat * 4)) 0) = some (.int .i64 x83) ∧
 Br (decide ((x83 : Int) > a2))
 (∃ n82, n82 < n78 ∧ ([.int .i64 a0_0, .int .i64 a0_1, .slice a0_2.a a0_2.n a0_2.c] : List Value) = [.int .i64 a0_0, .int .i64 a0_1, .slice a0_2.a a0_2.n a0_2.c] ∧ ([.int .i64 a1_0, .int .i64 a1_1, .int .i64 a1_2] : List Value) = [.int .i64 a1_0, .int .i64 a1_1, .int .i64 a1_2] ∧ ([.int .i64 0, .int .i64 0, .slice none 0 0] : List Value) = [.int .i64 0, .int .i64 0, .slice none 0 0] ∧ I77 n82 ((IntKind.wrap .i64 (x80 - 1))) w81)
 ((0 : Int) ≤ x80 ∧ x80 ≤ ((a0_2.c : Nat) : Int) ∧ ∃ l84 : List Value, Rd w81 (slBase a0_2.a (0) (a0_2.c) 4) l84 ∧ AppPre 32 4 w81 ⟨none, 0, 0⟩ ((x80 : Int).toNat - 0) l84 ∧ ∀ (s85 : Sl) (w86 : World), AppRes 67 4 w81 ⟨none, 0, 0⟩ ((x80 : Int).toNat - 0) l84 s85 w86 → w86.heap[w.heap.size]? = w81.heap[w.heap.size]? ∧ w86.heap[w0.heap.size]? = w81.heap[w0.heap.size]? ∧ w86.heap[w1.heap.size]? = w81.heap[w1.heap.size]? ∧ 
 ∀ w87 : World, w87 = w86.alloc (.cells #[.int .i64 a2, .int .i64 a1_0, .int .i64 a1_1, .int .i64 a1_2] 67) →
 AppPre 32 4 w87 ⟨s85.a, s85.n, s85.c⟩ 1 [.int .i64 a2, .int .i64 a1_0, .int .i64 a1_1, .int .i64 a1_2] ∧ ∀ (s88 : Sl) (w89 : World), AppRes 67 4 w87 ⟨s85.a, s85.n, s85.c⟩ 1 [.int .i64 a2, .int .i64 a1_0, .int .i64 a1_1, .int .i64 a1_2] s88 w89 → w89.heap[w.heap.size]? = w87.heap[w.heap.size]? ∧ w89.heap[w0.heap.size]? = w87.heap[w0.heap.size]? ∧ w89.heap[w1.heap.size]? = w87.heap[w1.heap.size]? ∧ w89.heap[w86.heap.size]? = w87.heap[w86.heap.size]? ∧ 
 (0 : Int) ≤ x80 ∧ x80 ≤ ((a0_2.n : Nat) : Int) ∧ ∃ l90 : List Value, Rd w89 (slBase a0_2.a ((x80 : Int).toNat) (a0_2.c) 4) l90 ∧ AppPre 32 4 w89 ⟨s88.a, s88.n, s88.c⟩ (a0_2.n - (x80 : Int).toNat) l90 ∧ ∀ (s91 : Sl) (w92 : World), AppRes 67 4 w89 ⟨s88.a, s88.n, s88.c⟩ (a0_2.n - (x80 : Int).toNat) l90 s91 w92 → w92.heap[w.heap.size]? = w89.heap[w.heap.size]? ∧ w92.heap[w0.heap.size]? = w89.heap[w0.heap.size]? ∧ w92.heap[w1.heap.size]? = w89.heap[w1.heap.size]? ∧ w92.heap[w86.heap.size]? = w89.heap[w86.heap.size]? ∧ 
 ∀ w93 : World, w93 = w92.setRow w.heap.size #[.int .i64 a0_0, .int .i64 a0_1, .slice s91.a s91.n s91.c] →
 ∀ w94 : World, w94 = w93.setRow w1.heap.size #[.int .i64 a0_0, .int .i64 a0_1, .slice s91.a s91.n s91.c] →
 R (.returned (.tuple #[.agg #[.int .i64 a0_0, .int .i64 a0_1, .slice s91.a s91.n s91.c], .bool true])) w94)))
 ((0 : Int) ≤ x80 ∧ x80 ≤ ((a0_2.c : Nat) : Int) ∧ ∃ l95 : List Value, Rd w81 (slBase a0_2.a (0) (a0_2.c) 4) l95 ∧ AppPre 32 4 w81 ⟨none, 0, 0⟩ ((x80 : Int).toNat - 0) l95 ∧ ∀ (s96 : Sl) (w97 : World), AppRes 67 4 w81 ⟨none, 0, 0⟩ ((x80 : Int).toNat - 0) l95 s96 w97 → w97.heap[w.heap.size]? = w81.heap[w.heap.size]? ∧ w97.heap[w0.heap.size]? = w81.heap[w0.heap.size]? ∧ w97.heap[w1.heap.size]? = w81.heap[w1.heap.size]? ∧ 
 ∀ w98 : World, w98 = w97.alloc (.cells #[.int .i64 a2, .int .i64 a1_0, .int .i64 a1_1, .int .i64 a1_2] 67) →
 AppPre 32 4 w98 ⟨s96.a, s96.n, s96.c⟩ 1 [.int .i64 a2, .int .i64 a1_0, .int .i64 a1_1, .int .i64 a1_2] ∧ ∀ (s99 : Sl) (w100 : World), AppRes 67 4 w98 ⟨s96.a, s96.n, s96.c⟩ 1 [.int .i64 a2, .int .i64 a1_0, .int .i64 a1_1, .int .i64 a1_2] s99 w100 → w100.heap[w.heap.size]? = w98.heap[w.heap.size]? ∧ w100.heap[w0.heap.size]? = w98.heap[w0.heap.size]? ∧ w100.heap[w1.heap.size]? = w98.heap[w1.heap.size]? ∧ w100.heap[w97.heap.size]? = w98.heap[w97.heap.size]? ∧ 
 (0 : Int) ≤ x80 ∧ x80 ≤ ((a0_2.n : Nat) : Int) ∧ ∃ l101 : List Value, Rd w100 (slBase a0_2.a ((x80 : Int).toNat) (a0_2.c) 4) l101 ∧ AppPre 32 4 w100 ⟨s99.a, s99.n, s99.c⟩ (a0_2.n - (x80 : Int).toNat) l101 ∧ ∀ (s102 : Sl) (w103 : World), AppRes 67 4 w100 ⟨s99.a, s99.n, s99.c⟩ (a0_2.n - (x80 : Int).toNat) l101 s102 w103 → w103.heap[w.heap.size]? = w100.heap[w.heap.size]? ∧ w103.heap[w0.heap.size]? = w100.heap[w0.heap.size]? ∧ w103.heap[w1.heap.size]? = w100.heap[w1.heap.size]? ∧ w103.heap[w97.heap.size]? = w100.heap[w97.heap.size]? ∧ 
 ∀ w104 : World, w104 = w103.setRow w.heap.size #[.int .i64 a0_0, .int .i64 a0_1, .slice s102.a s102.n s102.c] →
 ∀ w105 : World, w105 = w104.setRow w1.heap.size #[.int .i64 a0_0, .int .i64 a0_1, .slice s102.a s102.n s102.c] →
 R (.returned (.tuple #[.agg #[.int .i64 a0_0, .int .i64 a0_1, .slice s102.a s102.n s102.c], .bool true])) w105)))
 (∃ I106 : Nat → Int → World → Prop,
 (∃ n107, ([.int .i64 a0_0, .int .i64 a0_1, .slice a0_2.a a0_2.n a0_2.c] : List Value) = [.int .i64 a0_0, .int .i64 a0_1, .slice a0_2.a a0_2.n a0_2.c] ∧ ([.int .i64 a1_0, .int .i64 a1_1, .int .i64 a1_2] : List Value) = [.int .i64 a1_0, .int .i64 a1_1, .int .i64 a1_2] ∧ ([.int .i64 0, .int .i64 0, .slice none 0 0] : List Value) = [.int .i64 0, .int .i64 0, .slice none 0 0] ∧ I106 n107 (((a0_2.n : Nat) : Int)) w3) ∧
 ∀ (n107 : Nat) (us108 : Nat → Value) (x109 : Int) (w110 : World), I106 n107 x109 w110 →
 Br (decide ((x109 : Int) > 0))
 (InB a0_2.a (IntKind.wrap .i64 (x109 - 1)) a0_2.n ∧ AndL (nnC (padd a0_2.a (((IntKind.wrap .i64 (x109 - 1)) : Int).toNat * 4))) (∃ (x112 : Int), ld w110 (padd (padd a0_2.a (((IntKind.wrap .i64 (x109 - 1)) : Int).toNat * 4)) 0) = some (.int .i64 x112) ∧
 Br (decide ((x112 : Int) > a2))
 (∃ n111, n111 < n107 ∧ ([.int .i64 a0_0, .int .i64 a0_1, .slice a0_2.a a0_2.n a0_2.c] : List Value) = [.int .i64 a0_0, .int .i64 a0_1, .slice a0_2.a a0_2.n a0_2.c] ∧ ([.int .i64 a1_0, .int .i64 a1_1, .int .i64 a1_2] : List Value) = [.int .i64 a1_0, .int .i64 a1_1, .int .i64 a1_2] ∧ ([.int .i64 0, .int .i64 0, .slice none 0 0] : List Value) = [.int .i64 0, .int .i64 0, .slice none 0 0] ∧ I106 n111 ((IntKind.wrap .i64 (x109 - 1))) w110)
 ((0 : Int) ≤ x109 ∧ x109 ≤ ((a0_2.c : Nat) : Int) ∧ ∃ l113 : List Value, Rd w110 (slBase a0_2.a (0) (a0_2.c) 4) l113 ∧ AppPre 32 4 w110 ⟨none, 0, 0⟩ ((x109 : Int).toNat - 0) l113 ∧ ∀ (s114 : Sl) (w115 : World), AppRes 67 4 w110 ⟨none, 0, 0⟩ ((x109 : Int).toNat - 0) l113 s114 w115 → w115.heap[w.heap.size]? = w110.heap[w.heap.size]? ∧ w115.heap[w0.heap.size]? = w110.heap[w0.heap.size]? ∧ w115.heap[w1.heap.size]? = w110.heap[w1.heap.size]? ∧ 
 ∀ w116 : World, w116 = w115.alloc (.cells #[.int .i64 a2, .int .i64 a1_0, .int .i64 a1_1, .int .i64 a1_2] 67) →
 AppPre 32 4 w116 ⟨s114.a, s114.n, s114.c⟩ 1 [.int .i64 a2, .int .i64 a1_0, .int .i64 a1_1, .int .i64 a1_2] ∧ ∀ (s117 : Sl) (w118 : World), AppRes 67 4 w116 ⟨s114.a, s114.n, s114.c⟩ 1 [.int .i64 a2, .int .i64 a1_0, .int .i64 a1_1, .int .i64 a1_2] s117 w118 → w118.heap[w.heap.size]? = w116.heap[w.heap.size]? ∧ w118.heap[w0.heap.size]? = w116.heap[w0.heap.size]? ∧ w118.heap[w1.heap.size]? = w116.heap[w1.heap.size]? ∧ w118.heap[w115.heap.size]? = w116.heap[w115.heap.size]? ∧ 
 (0 : Int) ≤ x109 ∧ x109 ≤ ((a0_2.n : Nat) : Int) ∧ ∃ l119 : List Value, Rd w118 (slBase a0_2.a ((x109 : Int).toNat) (a0_2.c) 4) l119 ∧ AppPre 32 4 w118 ⟨s117.a, s117.n, s117.c⟩ (a0_2.n - (x109 : Int).toNat) l119 ∧ ∀ (s120 : Sl) (w121 : World), AppRes 67 4 w118 ⟨s117.a, s117.n, s117.c⟩ (a0_2.n - (x109 : Int).toNat) l119 s120 w121 → w121.heap[w.heap.size]? = w118.heap[w.heap.size]? ∧ w121.heap[w0.heap.size]? = w118.heap[w0.heap.size]? ∧ w121.heap[w1.heap.size]? = w118.heap[w1.heap.size]? ∧ w121.heap[w115.heap.size]? = w118.heap[w115.heap.size]? ∧ 
 ∀ w122 : World, w122 = w121.setRow w.heap.size #[.int .i64 a0_0, .int .i64 a0_1, .slice s120.a s120.n s120.c] →
 ∀ w123 : World, w123 = w122.setRow w1.heap.size #[.int .i64 a0_0, .int .i64 a0_1, .slice s120.a s120.n s120.c] →
 R (.returned (.tuple #[.agg #[.int .i64 a0_0, .int .i64 a0_1, .slice s120.a s120.n s120.c], .bool true])) w123)))
 ((0 : Int) ≤ x109 ∧ x109 ≤ ((a0_2.c : Nat) : Int) ∧ ∃ l124 : List Value, Rd w110 (slBase a0_2.a (0) (a0_2.c) 4) l124 ∧ AppPre 32 4 w110 ⟨none, 0, 0⟩ ((x109 : Int).toNat - 0) l124 ∧ ∀ (s125 : Sl) (w126 : World), AppRes 67 4 w110 ⟨none, 0, 0⟩ ((x109 : Int).toNat - 0) l124 s125 w126 → w126.heap[w.heap.size]? = w110.heap[w.heap.size]? ∧ w126.heap[w0.heap.size]? = w110.heap[w0.heap.size]? ∧ w126.heap[w1.heap.size]? = w110.heap[w1.heap.size]? ∧ 
 ∀ w127 : World, w127 = w126.alloc (.cells #[.int .i64 a2, .int .i64 a1_0, .int .i64 a1_1, .int .i64 a1_2] 67) →
 AppPre 32 4 w127 ⟨s125.a, s125.n, s125.c⟩ 1 [.int .i64 a2, .int .i64 a1_0, .int .i64 a1_1, .int .i64 a1_2] ∧ ∀ (s128 : Sl) (w129 : World), AppRes 67 4 w127 ⟨s125.a, s125.n, s125.c⟩ 1 [.int .i64 a2, .int .i64 a1_0, .int .i64 a1_1, .int .i64 a1_2] s128 w129 → w129.heap[w.heap.size]? = w127.heap[w.heap.size]? ∧ w129.heap[w0.heap.size]? = w127.heap[w0.heap.size]? ∧ w129.heap[w1.heap.size]? = w127.heap[w1.heap.size]? ∧ w129.heap[w126.heap.size]? = w127.heap[w126.heap.size]? ∧ 
 (0 : Int) ≤ x109 ∧ x109 ≤ ((a0_2.n : Nat) : Int) ∧ ∃ l130 : List Value, Rd w129 (slBase a0_2.a ((x109 : Int).toNat) (a0_2.c) 4) l130 ∧ AppPre 32 4 w129 ⟨s128.a, s128.n, s128.c⟩ (a0_2.n - (x109 : Int).toNat) l130 ∧ ∀ (s131 : Sl) (w132 : World), AppRes 67 4 w129 ⟨s128.a, s128.n, s128.c⟩ (a0_2.n - (x109 : Int).toNat) l130 s131 w132 → w132.heap[w.heap.size]? = w129.heap[w.heap.size]? ∧ w132.heap[w0.heap.size]? = w129.heap[w0.heap.size]? ∧ w132.heap[w1.heap.size]? = w129.heap[w1.heap.size]? ∧ w132.heap[w126.heap.size]? = w129.heap[w126.heap.size]? ∧ 
 ∀ w133 : World, w133 = w132.setRow w.heap.size #[.int .i64 a0_0, .int .i64 a0_1, .slice s131.a s131.n s131.c] →
 ∀ w134 : World, w134 = w133.setRow w1.heap.size #[.int .i64 a0_0, .int .i64 a0_1, .slice s131.a s131.n s131.c] →
 R (.returned (.tuple #[.agg #[.int .i64 a0_0, .int .i64 a0_1, .slice s131.a s131.n s131.c], .bool true])) w134))))
theorem ref17_Add.vc {a0_0 a0_1 a0_2 a1_0 a1_1 a1_2 a2 w} {R : Ending → World → Prop} (h : ref17_Add.pre a0_0 a0_1 a0_2 a1_0 a1_1 a1_2 a2 w R) : Calls Try.prog n_ref17_Add #[.agg #[.int .i64 a0_0, .int .i64 a0_1, .slice a0_2.a a0_2.n a0_2.c], .agg #[.int .i64 a1_0, .int .i64 a1_1, .int .i64 a1_2], .int .i64 a2] w R :=
  calls_of_eq (an := ⟨[(11, ⟨[(11, .int .i64)], [], []⟩), (11, ⟨[(11, .int .i64)], [], []⟩), (11, ⟨[(11, .int .i64)], [], []⟩), (11, ⟨[(11, .int .i64)], [], []⟩)], [], []⟩) (args := [.agg #[.int .i64 a0_0, .int .i64 a0_1, .slice a0_2.a a0_2.n a0_2.c], .agg #[.int .i64 a1_0, .int .i64 a1_1, .int .i64 a1_2], .int .i64 a2]) Try.noNG Try.mixed Try.func24 h (by kernel_rfl)

/- breccia/brecciaref17.Due  -/
def ref17_Due.pre (a0_0 : Int) (a0_1 : Int) (a0_2 : Sl) (a1 : Int) (a2 : Int) (w : World) (R : Ending → World → Prop) : Prop :=
 ∀ w0 : World, w0 = w.alloc (.cells #[.int .i64 a0_0, .int .i64 a0_1, .slice a0_2.a a0_2.n a0_2.c] 43) →
 ∀ w1 : World, w1 = w0.alloc (.cells #[.int .i64 0, .int .i64 0, .slice none 0 0] 43) →
 ∃ I2 : Nat → Int → Sl → Sl → World → Prop,
 (∃ n3, ([.int .i64 a0_0, .int .i64 a0_1, .slice a0_2.a a0_2.n a0_2.c] : List Value) = [.int .i64 a0_0, .int .i64 a0_1, .slice a0_2.a a0_2.n a0_2.c] ∧ ([.int .i64 0, .int .i64 0, .slice none 0 0] : List Value) = [.int .i64 0, .int .i64 0, .slice none 0 0] ∧ I2 n3 (0) ⟨none, 0, 0⟩ ⟨none, 0, 0⟩ w1) ∧
 ∀ (n3 : Nat) (us4 : Nat → Value) (x5 : Int) (s6 : Sl) (s7 : Sl) (w8 : World), I2 n3 x5 s6 s7 w8 →
 Br (decide ((x5 : Int) < ((a0_2.n : Nat) : Int)))
 (InB a0_2.a x5 a0_2.n ∧ AndL (nnC (padd a0_2.a ((x5 : Int).toNat * 4))) (∃ (x10 : Int), ld w8 (padd (padd a0_2.a ((x5 : Int).toNat * 4)) 0) = some (.int .i64 x10) ∧
 Br (decide ((x10 : Int) ≤ a1))
 (Br (decide ((((s6.n : Nat) : Int) : Int) < a2))
 (InB a0_2.a x5 a0_2.n ∧ AndL (nnC (padd a0_2.a ((x5 : Int).toNat * 4))) (∃ (x11 : Int) (x12 : Int) (x13 : Int), LoadL w8 (padd (padd a0_2.a ((x5 : Int).toNat * 4)) 1) 0 [.int .i64 x11, .int .i64 x12, .int .i64 x13] ∧
 ∀ w14 : World, w14 = w8.alloc (.cells #[.int .i64 x11, .int .i64 x12, .int .i64 x13] 28) →
 AppPre 24 3 w14 ⟨s6.a, s6.n, s6.c⟩ 1 [.int .i64 x11, .int .i64 x12, .int .i64 x13] ∧ ∀ (s15 : Sl) (w16 : World), AppRes 28 3 w14 ⟨s6.a, s6.n, s6.c⟩ 1 [.int .i64 x11, .int .i64 x12, .int .i64 x13] s15 w16 → w16.heap[w.heap.size]? = w14.heap[w.heap.size]? ∧ w16.heap[w0.heap.size]? = w14.heap[w0.heap.size]? ∧ w16.heap[w8.heap.size]? = w14.heap[w8.heap.size]? ∧ 
 ∃ n9, n9 < n3 ∧ ([.int .i64 a0_0, .int .i64 a0_1, .slice a0_2.a a0_2.n a0_2.c] : List Value) = [.int .i64 a0_0, .int .i64 a0_1, .slice a0_2.a a0_2.n a0_2.c] ∧ ([.int .i64 0, .int .i64 0, .slice none 0 0] : List Value) = [.int .i64 0, .int .i64 0, .slice none 0 0] ∧ I2 n9 ((IntKind.wrap .i64 (x5 + 1))) ⟨s15.a, s15.n, s15.c⟩ ⟨s7.a, s7.n, s7.c⟩ w16))
 (InB a0_2.a x5 a0_2.n ∧ ∃ (x17 : Int) (x18 : Int) (x19 : Int) (x20 : Int), LoadL w8 (padd a0_2.a ((x5 : Int).toNat * 4)) 0 [.int .i64 x17, .int .i64 x18, .int .i64 x19, .int .i64 x20] ∧
 ∀ w21 : World, w21 = w8.alloc (.cells #[.int .i64 x17, .int .i64 x18, .int .i64 x19, .int .i64 x20] 67) →
 AppPre 32 4 w21 ⟨s7.a, s7.n, s7.c⟩ 1 [.int .i64 x17, .int .i64 x18, .int .i64 x19, .int .i64 x20] ∧ ∀ (s22 : Sl) (w23 : World), AppRes 67 4 w21 ⟨s7.a, s7.n, s7.c⟩ 1 [.int .i64 x17, .int .i64 x18, .int .i64 x19, .int .i64 x20] s22 w23 → w23.heap[w.heap.size]? = w21.heap[w.heap.size]? ∧ w23.heap[w0.heap.size]? = w21.heap[w0.heap.size]? ∧ w23.heap[w8.heap.size]? = w21.heap[w8.heap.size]? ∧ 
 ∃ n9, n9 < n3 ∧ ([.int .i64 a0_0, .int .i64 a0_1, .slice a0_2.a a0_2.n a0_2.c] : List Value) = [.int .i64 a0_0, .int .i64 a0_1, .slice a0_2.a a0_2.n a0_2.c] ∧ ([.int .i64 0, .int .i64 0, .slice none 0 0] : List Value) = [.int .i64 0, .int .i64 0, .slice none 0 0] ∧ I2 n9 ((IntKind.wrap .i64 (x5 + 1))) ⟨s6.a, s6.n, s6.c⟩ ⟨s22.a, s22.n, s22.c⟩ w23))
 (InB a0_2.a x5 a0_2.n ∧ ∃ (x24 : Int) (x25 : Int) (x26 : Int) (x27 : Int), LoadL w8 (padd a0_2.a ((x5 : Int).toNat * 4)) 0 [.int .i64 x24, .int .i64 x25, .int .i64 x26, .int .i64 x27] ∧
 ∀ w28 : World, w28 = w8.alloc (.cells #[.int .i64 x24, .int .i64 x25, .int .i64 x26, .int .i64 x27] 67) →
 AppPre 32 4 w28 ⟨s7.a, s7.n, s7.c⟩ 1 [.int .i64 x24, .int .i64 x25, .int .i64 x26, .int .i64 x27] ∧ ∀ (s29 : Sl) (w30 : World), AppRes 67 4 w28 ⟨s7.a, s7.n, s7.c⟩ 1 [.int .i64 x24, .int .i64 x25, .int .i64 x26, .int .i64 x27] s29 w30 → w30.heap[w.heap.size]? = w28.heap[w.heap.size]? ∧ w30.heap[w0.heap.size]? = w28.heap[w0.heap.size]? ∧ w30.heap[w8.heap.size]? = w28.heap[w8.heap.size]? ∧ 
 ∃ n9, n9 < n3 ∧ ([.int .i64 a0_0, .int .i64 a0_1, .slice a0_2.a a0_2.n a0_2.c] : List Value) = [.int .i64 a0_0, .int .i64 a0_1, .slice a0_2.a a0_2.n a0_2.c] ∧ ([.int .i64 0, .int .i64 0, .slice none 0 0] : List Value) = [.int .i64 0, .int .i64 0, .slice none 0 0] ∧ I2 n9 ((IntKind.wrap .i64 (x5 + 1))) ⟨s6.a, s6.n, s6.c⟩ ⟨s29.a, s29.n, s29.c⟩ w30)))
 (∀ w31 : World, w31 = w8.setRow w.heap.size #[.int .i64 a0_0, .int .i64 a0_1, .slice s7.a s7.n s7.c] →
 ∀ w32 : World, w32 = w31.setRow w0.heap.size #[.int .i64 a0_0, .int .i64 a0_1, .slice s7.a s7.n s7.c] →
 R (.returned (.tuple #[.agg #[.int .i64 a0_0, .int .i64 a0_1, .slice s7.a s7.n s7.c], .slice s6.a s6.n s6.c])) w32)
theorem ref17_Due.vc {a0_0 a0_1 a0_2 a1 a2 w} {R : Ending → World → Prop} (h : ref17_Due.pre a0_0 a0_1 a0_2 a1 a2 w R) : Calls Try.prog n_ref17_Due #[.agg #[.int .i64 a0_0, .int .i64 a0_1, .slice a0_2.a a0_2.n a0_2.c], .int .i64 a1, .int .i64 a2] w R :=
  calls_of_eq (an := ⟨[(4, ⟨[(10, .int .i64), (8, .slice), (9, .slice)], [], []⟩)], [], []⟩) (args := [.agg #[.int .i64 a0_0, .int .i64 a0_1, .slice a0_2.a a0_2.n a0_2.c], .int .i64 a1, .int .i64 a2]) Try.noNG Try.mixed Try.func25 h (by kernel_rfl)

/- breccia/brecciaref17.Drop  -/
def ref17_Drop.pre (a0_0 : Int) (a0_1 : Int) (a0_2 : Sl) (a1_0 : Int) (a1_1 : Int) (a1_2 : Int) (w : World) (R : Ending → World → Prop) : Prop :=
 ∀ w0 : World, w0 = w.alloc (.cells #[.int .i64 a0_0, .int .i64 a0_1, .slice a0_2.a a0_2.n a0_2.c] 43) →
 ∀ w1 : World, w1 = w0.alloc (.cells #[.int .i64 a1_0, .int .i64 a1_1, .int .i64 a1_2] 28) →
 ∀ w2 : World, w2 = w1.alloc (.cells #[.int .i64 0, .int .i64 0, .slice none 0 0] 43) →
 Calls Try.prog n_ref17_Find #[.agg #[.int .i64 a0_0, .int .i64 a0_1, .slice a0_2.a a0_2.n a0_2.c], .agg #[.int .i64 a1_0, .int .i64 a1_1, .int .i64 a1_2]] w2 (fun e w3 => ∃ (x4 : Int), e = .returned (.int .i64 x4) ∧ w3.heap[w.heap.size]? = w2.heap[w.heap.size]? ∧ w3.heap[w0.heap.size]? = w2.heap[w0.heap.size]? ∧ w3.heap[w1.heap.size]? = w2.heap[w1.heap.size]? ∧ 
 Br (decide ((x4 : Int) < 0))
 (∀ w5 : World, w5 = w3.setRow w1.heap.size #[.int .i64 a0_0, .int .i64 a0_1, .slice a0_2.a a0_2.n a0_2.c] →
 R (.returned (.tuple #[.agg #[.int .i64 a0_0, .int .i64 a0_1, .slice a0_2.a a0_2.n a0_2.c], .bool false])) w5)
 ((0 : Int) ≤ x4 ∧ x4 ≤ ((a0_2.c : Nat) : Int) ∧ ∃ l6 : List Value, Rd w3 (slBase a0_2.a (0) (a0_2.c) 4) l6 ∧ AppPre 32 4 w3 ⟨none, 0, 0⟩ ((x4 : Int).toNat - 0) l6 ∧ ∀ (s7 : Sl) (w8 : World), AppRes 67 4 w3 ⟨none, 0, 0⟩ ((x4 : Int).toNat - 0) l6 s7 w8 → w8.heap[w.heap.size]? = w3.heap[w.heap.size]? ∧ w8.heap[w0.heap.size]? = w3.heap[w0.heap.size]? ∧ w8.heap[w1.heap.size]? = w3.heap[w1.heap.size]? ∧ 
 (0 : Int) ≤ (IntKind.wrap .i64 (x4 + 1)) ∧ (IntKind.wrap .i64 (x4 + 1)) ≤ ((a0_2.n : Nat) : Int) ∧ ∃ l9 : List Value, Rd w8 (slBase a0_2.a (((IntKind.wrap .i64 (x4 + 1)) : Int).toNat) (a0_2.c) 4) l9 ∧ AppPre 32 4 w8 ⟨s7.a, s7.n, s7.c⟩ (a0_2.n - ((IntKind.wrap .i64 (x4 + 1)) : Int).toNat) l9 ∧ ∀ (s10 : Sl) (w11 : World), AppRes 67 4 w8 ⟨s7.a, s7.n, s7.c⟩ (a0_2.n - ((IntKind.wrap .i64 (x4 + 1)) : Int).toNat) l9 s10 w11 → w11.heap[w.heap.size]? = w8.heap[w.heap.size]? ∧ w11.heap[w0.heap.size]? = w8.heap[w0.heap.size]? ∧ w11.heap[w1.heap.size]? = w8.heap[w1.heap.size]? ∧ 
 ∀ w12 : World, w12 = w11.setRow w.heap.size #[.int .i64 a0_0, .int .i64 a0_1, .slice s10.a s10.n s10.c] →
 ∀ w13 : World, w13 = w12.setRow w1.heap.size #[.int .i64 a0_0, .int .i64 a0_1, .slice s10.a s10.n s10.c] →
 R (.returned (.tuple #[.agg #[.int .i64 a0_0, .int .i64 a0_1, .slice s10.a s10.n s10.c], .bool true])) w13))
theorem ref17_Drop.vc {a0_0 a0_1 a0_2 a1_0 a1_1 a1_2 w} {R : Ending → World → Prop} (h : ref17_Drop.pre a0_0 a0_1 a0_2 a1_0 a1_1 a1_2 w R) : Calls Try.prog n_ref17_Drop #[.agg #[.int .i64 a0_0, .int .i64 a0_1, .slice a0_2.a a0_2.n a0_2.c], .agg #[.int .i64 a1_0, .int .i64 a1_1, .int .i64 a1_2]] w R :=
  calls_of_eq (an := ⟨[], [], []⟩) (args := [.agg #[.int .i64 a0_0, .int .i64 a0_1, .slice a0_2.a a0_2.n a0_2.c], .agg #[.int .i64 a1_0, .int .i64 a1_1, .int .i64 a1_2]]) Try.noNG Try.mixed Try.func26 h (by kernel_rfl)

/- (*breccia/queue.Queue).Put  -/
def queue_Queue_Put.pre (a0 : Addr) (a1 : Sl) (w : World) (R : Ending → World → Prop) : Prop :=
 ∃ I0 : Nat → Int → Int → World → Prop,
 (∃ n1, I0 n1 (0) (0) w) ∧
 ∀ (n1 : Nat) (us2 : Nat → Value) (x3 : Int) (x4 : Int) (w5 : World), I0 n1 x3 x4 w5 →
 Br (decide ((x3 : Int) < ((a1.n : Nat) : Int)))
 (InB a1.a x3 a1.n ∧ ∃ (x7 : Int) (x8 : Int) (x9 : Int) (x10 : Int), LoadL w5 (padd a1.a ((x3 : Int).toNat * 4)) 0 [.int .i64 x7, .int .i64 x8, .int .i64 x9, .int .i64 x10] ∧
 ∀ w11 : World, w11 = w5.alloc (.cells #[.int .i64 0, .int .i64 0, .int .i64 0, .int .i64 0] 36) →
 ∀ w12 : World, w12 = w11.setRow w5.heap.size #[.int .i64 x7, .int .i64 x8, .int .i64 x9, .int .i64 x10] →
 Calls Try.prog n_queue_Queue_Add #[.pointer (some a0), .agg #[.int .i64 x8, .int .i64 x9, .int .i64 x10], .int .i64 x7] w12 (fun e w13 => ∃ (b14 : Bool), e = .returned (.bool b14) ∧ w13.heap[w5.heap.size]? = w12.heap[w5.heap.size]? ∧ 
 Br b14
 (∃ n6, n6 < n1 ∧ I0 n6 ((IntKind.wrap .i64 (x3 + 1))) ((IntKind.wrap .i64 (x4 + 1))) w13)
 (∃ n6, n6 < n1 ∧ I0 n6 ((IntKind.wrap .i64 (x3 + 1))) (x4) w13)))
 (R (.returned (.int .i64 x4)) w5)
theorem queue_Queue_Put.vc {a0 a1 w} {R : Ending → World → Prop} (h : queue_Queue_Put.pre a0 a1 w R) : Calls Try.prog n_queue_Queue_Put #[.pointer (some a0), .slice a1.a a1.n a1.c] w R :=
  calls_of_eq (an := ⟨[(3, ⟨[(10, .int .i64), (5, .int .i64)], [], []⟩)], [], []⟩) (args := [.pointer (some a0), .slice a1.a a1.n a1.c]) Try.noNG Try.mixed Try.func27 h (by kernel_rfl)

/- (*breccia/queue.Queue).All  -/
def queue_Queue_All.pre (a0 : Addr) (w : World) (R : Ending → World → Prop) : Prop :=
 ∃ (s0 : Sl), ld w (padd (some a0) 2) = some (.slice s0.a s0.n s0.c) ∧
 Calls Try.prog n_slices_Clone_Item #[.slice s0.a s0.n s0.c] w (fun e w1 => ∃ (s2 : Sl), e = .returned (.slice s2.a s2.n s2.c) ∧ 
 R (.returned (.slice s2.a s2.n s2.c)) w1)
theorem queue_Queue_All.vc {a0 w} {R : Ending → World → Prop} (h : queue_Queue_All.pre a0 w R) : Calls Try.prog n_queue_Queue_All #[.pointer (some a0)] w R :=
  calls_of_eq (an := ⟨[], [], []⟩) (args := [.pointer (some a0)]) Try.noNG Try.mixed Try.func28 h (by kernel_rfl)

/- slices.DeleteFunc[[]breccia/queue.Item,breccia/queue.Item]  -/
def slices_DeleteFunc_Item.pre (a0 : Sl) (a1 : Value) (w : World) (R : Ending → World → Prop) : Prop :=
 Calls Try.prog n_slices_IndexFunc_Item #[.slice a0.a a0.n a0.c, a1] w (fun e w0 => ∃ (x1 : Int), e = .returned (.int .i64 x1) ∧ 
 Br ((x1 : Int) == (-1))
 (R (.returned (.slice a0.a a0.n a0.c)) w0)
 (∃ I2 : Nat → Int → Int → World → Prop,
 (∃ n3, I2 n3 ((IntKind.wrap .i64 (x1 + 1))) (x1) w0) ∧
 ∀ (n3 : Nat) (us4 : Nat → Value) (x5 : Int) (x6 : Int) (w7 : World), I2 n3 x5 x6 w7 →
 Br (decide ((x5 : Int) < ((a0.n : Nat) : Int)))
 (InB a0.a x5 a0.n ∧ ∃ (x9 : Int) (x10 : Int) (x11 : Int) (x12 : Int), LoadL w7 (padd a0.a ((x5 : Int).toNat * 4)) 0 [.int .i64 x9, .int .i64 x10, .int .i64 x11, .int .i64 x12] ∧
 ∀ w13 : World, w13 = w7.alloc (.cells #[.int .i64 0, .int .i64 0, .int .i64 0, .int .i64 0] 36) →
 ∀ w14 : World, w14 = w13.setRow w7.heap.size #[.int .i64 x9, .int .i64 x10, .int .i64 x11, .int .i64 x12] →
 callV Try.prog a1 [.agg #[.int .i64 x9, .int .i64 x10, .int .i64 x11, .int .i64 x12]] w14 (fun e w15 => ∃ (b16 : Bool), e = .returned (.bool b16) ∧ w15.heap[w7.heap.size]? = w14.heap[w7.heap.size]? ∧ 
 Br (!b16)
 (InB a0.a x6 a0.n ∧ (((padd a0.a ((x6 : Int).toNat * 4))).isSome = true ∧ Wr w15 (padd a0.a ((x6 : Int).toNat * 4)) 4) ∧ pblk (padd a0.a ((x6 : Int).toNat * 4)) ≠ some w7.heap.size ∧ (∀ w17 : World, w17 = setP w15 (padd a0.a ((x6 : Int).toNat * 4)) [.int .i64 x9, .int .i64 x10, .int .i64 x11, .int .i64 x12] →
 ∃ n8, n8 < n3 ∧ I2 n8 ((IntKind.wrap .i64 (x5 + 1))) ((IntKind.wrap .i64 (x6 + 1))) w17))
 (∃ n8, n8 < n3 ∧ I2 n8 ((IntKind.wrap .i64 (x5 + 1))) (x6) w15)))
 ((0 : Int) ≤ x6 ∧ x6 ≤ ((a0.n : Nat) : Int) ∧ Wr w7 (slBase a0.a ((x6 : Int).toNat) (a0.c) 4) ((a0.n - (x6 : Int).toNat) * 4) ∧ (∀ w18 : World, w18 = setP w7 (slBase a0.a ((x6 : Int).toNat) (a0.c) 4) (zeroRows [.int .i64 0, .int .i64 0, .int .i64 0, .int .i64 0] (a0.n - (x6 : Int).toNat)) →
 (0 : Int) ≤ x6 ∧ x6 ≤ ((a0.c : Nat) : Int) ∧ R (.returned (.slice (slBase a0.a (0) (a0.c) 4) ((x6 : Int).toNat - 0) (a0.c - 0))) w18))))
theorem slices_DeleteFunc_Item.vc {a0 a1 w} {R : Ending → World → Prop} (h : slices_DeleteFunc_Item.pre a0 a1 w R) : Calls Try.prog n_slices_DeleteFunc_Item #[.slice a0.a a0.n a0.c, a1] w R :=
  calls_of_eq (an := ⟨[(5, ⟨[(6, .int .i64), (5, .int .i64)], [], []⟩)], [], []⟩) (args := [.slice a0.a a0.n a0.c, a1]) Try.noNG Try.mixed Try.func29 h (by kernel_rfl)

/- (*breccia/queue.Queue).Drop$1  -/
def queue_Queue_Drop_1.pre (a0_0 : Int) (a0_1 : Int) (a0_2 : Int) (a0_3 : Int) (c0 : Addr) (w : World) (R : Ending → World → Prop) : Prop :=
 ∀ w0 : World, w0 = w.alloc (.cells #[.int .i64 a0_0, .int .i64 a0_1, .int .i64 a0_2, .int .i64 a0_3] 36) →
 ∃ (x1 : Int) (x2 : Int) (x3 : Int), LoadL w0 (some c0) 0 [.int .i64 x1, .int .i64 x2, .int .i64 x3] ∧
 R (.returned (.bool (((a0_1 : Int) == x1) && (((a0_2 : Int) == x2) && ((a0_3 : Int) == x3))))) w0
theorem queue_Queue_Drop_1.vc {a0_0 a0_1 a0_2 a0_3 c0 w} {R : Ending → World → Prop} (h : queue_Queue_Drop_1.pre a0_0 a0_1 a0_2 a0_3 c0 w R) : Calls Try.prog n_queue_Queue_Drop_1 #[.agg #[.int .i64 a0_0, .int .i64 a0_1, .int .i64 a0_2, .int .i64 a0_3], .pointer (some c0)] w R :=
  calls_of_eq (an := ⟨[], [], []⟩) (args := [.agg #[.int .i64 a0_0, .int .i64 a0_1, .int .i64 a0_2, .int .i64 a0_3], .pointer (some c0)]) Try.noNG Try.mixed Try.func30 h (by kernel_rfl)

/- slices.BinarySearchFunc[[]breccia/queue.Item,breccia/queue.Item,breccia/queue.Item]  -/
def slices_BinarySearchFunc_Item.pre (a0 : Sl) (a1_0 : Int) (a1_1 : Int) (a1_2 : Int) (a1_3 : Int) (a2 : Value) (w : World) (R : Ending → World → Prop) : Prop :=
 ∀ w0 : World, w0 = w.alloc (.cells #[.int .i64 a1_0, .int .i64 a1_1, .int .i64 a1_2, .int .i64 a1_3] 36) →
 ∃ I1 : Nat → Int → Int → World → Prop,
 (∃ n2, ([.int .i64 a1_0, .int .i64 a1_1, .int .i64 a1_2, .int .i64 a1_3] : List Value) = [.int .i64 a1_0, .int .i64 a1_1, .int .i64 a1_2, .int .i64 a1_3] ∧ I1 n2 (0) (((a0.n : Nat) : Int)) w0) ∧
 ∀ (n2 : Nat) (us3 : Nat → Value) (x4 : Int) (x5 : Int) (w6 : World), I1 n2 x4 x5 w6 →
 Br (decide ((x4 : Int) < x5))
 (InB a0.a (IntKind.wrap .i64 (((IntKind.wrap .u64 (IntKind.wrap .i64 (x4 + x5))) : Int).fdiv (2 ^ (min (1 : Int).toNat 64)))) a0.n ∧ ∃ (x8 : Int) (x9 : Int) (x10 : Int) (x11 : Int), LoadL w6.drew (padd a0.a (((IntKind.wrap .i64 (((IntKind.wrap .u64 (IntKind.wrap .i64 (x4 + x5))) : Int).fdiv (2 ^ (min (1 : Int).toNat 64)))) : Int).toNat * 4)) 0 [.int .i64 x8, .int .i64 x9, .int .i64 x10, .int .i64 x11] ∧
 callV Try.prog a2 [.agg #[.int .i64 x8, .int .i64 x9, .int .i64 x10, .int .i64 x11], .agg #[.int .i64 a1_0, .int .i64 a1_1, .int .i64 a1_2, .int .i64 a1_3]] w6.drew (fun e w12 => ∃ (x13 : Int), e = .returned (.int .i64 x13) ∧ w12.heap[w.heap.size]? = w6.drew.heap[w.heap.size]? ∧ 
 Br (decide ((x13 : Int) < 0))
 (∃ n7, n7 < n2 ∧ ([.int .i64 a1_0, .int .i64 a1_1, .int .i64 a1_2, .int .i64 a1_3] : List Value) = [.int .i64 a1_0, .int .i64 a1_1, .int .i64 a1_2, .int .i64 a1_3] ∧ I1 n7 ((IntKind.wrap .i64 ((IntKind.wrap .i64 (((IntKind.wrap .u64 (IntKind.wrap .i64 (x4 + x5))) : Int).fdiv (2 ^ (min (1 : Int).toNat 64)))) + 1))) (x5) w12)
 (∃ n7, n7 < n2 ∧ ([.int .i64 a1_0, .int .i64 a1_1, .int .i64 a1_2, .int .i64 a1_3] : List Value) = [.int .i64 a1_0, .int .i64 a1_1, .int .i64 a1_2, .int .i64 a1_3] ∧ I1 n7 (x4) ((IntKind.wrap .i64 (((IntKind.wrap .u64 (IntKind.wrap .i64 (x4 + x5))) : Int).fdiv (2 ^ (min (1 : Int).toNat 64))))) w12)))
 (Br (decide ((x4 : Int) < ((a0.n : Nat) : Int)))
 (InB a0.a x4 a0.n ∧ ∃ (x14 : Int) (x15 : Int) (x16 : Int) (x17 : Int), LoadL w6.drew (padd a0.a ((x4 : Int).toNat * 4)) 0 [.int .i64 x14, .int .i64 x15, .int .i64 x16, .int .i64 x17] ∧
 callV Try.prog a2 [.agg #[.int .i64 x14, .int .i64 x15, .int .i64 x16, .int .i64 x17], .agg #[.int .i64 a1_0, .int .i64 a1_1, .int .i64 a1_2, .int .i64 a1_3]] w6.drew (fun e w18 => ∃ (x19 : Int), e = .returned (.int .i64 x19) ∧ w18.heap[w.heap.size]? = w6.drew.heap[w.heap.size]? ∧ 
 R (.returned (.tuple #[.int .i64 x4, .bool ((x19 : Int) == 0)])) w18))
 (R (.returned (.tuple #[.int .i64 x4, .bool false])) w6.drew))
theorem slices_BinarySearchFunc_Item.vc {a0 a1_0 a1_1 a1_2 a1_3 a2 w} {R : Ending → World → Prop} (h : slices_BinarySearchFunc_Item.pre a0 a1_0 a1_1 a1_2 a1_3 a2 w R) : Calls Try.prog n_slices_BinarySearchFunc_Item #[.slice a0.a a0.n a0.c, .agg #[.int .i64 a1_0, .int .i64 a1_1, .int .i64 a1_2, .int .i64 a1_3], a2] w R :=
  calls_of_eq (an := ⟨[(3, ⟨[(9, .int .i64), (10, .int .i64)], [], []⟩)], [], []⟩) (args := [.slice a0.a a0.n a0.c, .agg #[.int .i64 a1_0, .int .i64 a1_1, .int .i64 a1_2, .int .i64 a1_3], a2]) Try.noNG Try.mixed Try.func31 h (by kernel_rfl)

/- (*breccia/queue.Queue).push$1  -/
def queue_Queue_push_1.pre (a0_0 : Int) (a0_1 : Int) (a0_2 : Int) (a0_3 : Int) (a1_0 : Int) (a1_1 : Int) (a1_2 : Int) (a1_3 : Int) (w : World) (R : Ending → World → Prop) : Prop :=
 ∀ w0 : World, w0 = w.alloc (.cells #[.int .i64 a0_0, .int .i64 a0_1, .int .i64 a0_2, .int .i64 a0_3] 36) →
 ∀ w1 : World, w1 = w0.alloc (.cells #[.int .i64 a1_0, .int .i64 a1_1, .int .i64 a1_2, .int .i64 a1_3] 36) →
 Calls Try.prog n_cmp_Compare_int #[.int .i64 a0_0, .int .i64 a1_0] w1 (fun e w2 => ∃ (x3 : Int), e = .returned (.int .i64 x3) ∧ w2.heap[w.heap.size]? = w1.heap[w.heap.size]? ∧ w2.heap[w0.heap.size]? = w1.heap[w0.heap.size]? ∧ 
 ∀ w4 : World, w4 = w2.alloc (.cells #[.int .i64 x3, .int .i64 (-1)] 3) →
 Calls Try.prog n_cmp_Or_int #[.slice (some ⟨w2.heap.size, 0, none⟩) 2 2] w4 (fun e w5 => ∃ (x6 : Int), e = .returned (.int .i64 x6) ∧ w5.heap[w.heap.size]? = w4.heap[w.heap.size]? ∧ w5.heap[w0.heap.size]? = w4.heap[w0.heap.size]? ∧ 
 R (.returned (.int .i64 x6)) w5))
theorem queue_Queue_push_1.vc {a0_0 a0_1 a0_2 a0_3 a1_0 a1_1 a1_2 a1_3 w} {R : Ending → World → Prop} (h : queue_Queue_push_1.pre a0_0 a0_1 a0_2 a0_3 a1_0 a1_1 a1_2 a1_3 w R) : Calls Try.prog n_queue_Queue_push_1 #[.agg #[.int .i64 a0_0, .int .i64 a0_1, .int .i64 a0_2, .int .i64 a0_3], .agg #[.int .i64 a1_0, .int .i64 a1_1, .int .i64 a1_2, .int .i64 a1_3]] w R :=
  calls_of_eq (an := ⟨[], [], []⟩) (args := [.agg #[.int .i64 a0_0, .int .i64 a0_1, .int .i64 a0_2, .int .i64 a0_3], .agg #[.int .i64 a1_0, .int .i64 a1_1, .int .i64 a1_2, .int .i64 a1_3]]) Try.noNG Try.mixed Try.func32 h (by kernel_rfl)

/- cmp.Or[int]  -/
def cmp_Or_int.pre (a0 : Sl) (w : World) (R : Ending → World → Prop) : Prop :=
 ∃ I0 : Nat → Int → World → Prop,
 (∃ n1, I0 n1 (0) w) ∧
 ∀ (n1 : Nat) (us2 : Nat → Value) (x3 : Int) (w4 : World), I0 n1 x3 w4 →
 Br (decide ((x3 : Int) < ((a0.n : Nat) : Int)))
 (InB a0.a x3 a0.n ∧ ∃ (x6 : Int), ld w4 (padd a0.a ((x3 : Int).toNat * 1)) = some (.int .i64 x6) ∧
 Br ((x6 : Int) != 0)
 (R (.returned (.int .i64 x6)) w4)
 (∃ n5, n5 < n1 ∧ I0 n5 ((IntKind.wrap .i64 (x3 + 1))) w4))
 (R (.returned (.int .i64 0)) w4)
theorem cmp_Or_int.vc {a0 w} {R : Ending → World → Prop} (h : cmp_Or_int.pre a0 w R) : Calls Try.prog n_cmp_Or_int #[.slice a0.a a0.n a0.c] w R :=
  calls_of_eq (an := ⟨[(3, ⟨[(8, .int .i64)], [], []⟩)], [], []⟩) (args := [.slice a0.a a0.n a0.c]) Try.noNG Try.mixed Try.func33 h (by kernel_rfl)

/- cmp.Compare[int]  -/
def cmp_Compare_int.pre (a0 : Int) (a1 : Int) (w : World) (R : Ending → World → Prop) : Prop :=
 Calls Try.prog n_cmp_isNaN_int #[.int .i64 a0] w (fun e w0 => ∃ (b1 : Bool), e = .returned (.bool b1) ∧ 
 Calls Try.prog n_cmp_isNaN_int #[.int .i64 a1] w0 (fun e w2 => ∃ (b3 : Bool), e = .returned (.bool b3) ∧ 
 Br b1
 (Br b3
 (R (.returned (.int .i64 0)) w2)
 (R (.returned (.int .i64 (-1))) w2))
 (Br b3
 (R (.returned (.int .i64 1)) w2)
 (Br (decide ((a0 : Int) < a1))
 (R (.returned (.int .i64 (-1))) w2)
 (Br (decide ((a0 : Int) > a1))
 (R (.returned (.int .i64 1)) w2)
 (R (.returned (.int .i64 0)) w2))))))
theorem cmp_Compare_int.vc {a0 a1 w} {R : Ending → World → Prop} (h : cmp_Compare_int.pre a0 a1 w R) : Calls Try.prog n_cmp_Compare_int #[.int .i64 a0, .int .i64 a1] w R :=
  calls_of_eq (an := ⟨[], [], []⟩) (args := [.int .i64 a0, .int .i64 a1]) Try.noNG Try.mixed Try.func34 h (by kernel_rfl)

/- slices.Insert[[]breccia/queue.Item,breccia/queue.Item]  -/
def slices_Insert_Item.pre (a0 : Sl) (a1 : Int) (a2 : Sl) (w : World) (R : Ending → World → Prop) : Prop :=
 (0 : Int) ≤ a1 ∧ a1 ≤ ((a0.n : Nat) : Int) ∧ Br ((((a2.n : Nat) : Int) : Int) == 0)
 (R (.returned (.slice a0.a a0.n a0.c)) w)
 (Br ((a1 : Int) == ((a0.n : Nat) : Int))
 (∃ l0 : List Value, Rd w a2.a l0 ∧ AppPre 32 4 w ⟨a0.a, a0.n, a0.c⟩ a2.n l0 ∧ ∀ (s1 : Sl) (w2 : World), AppRes 36 4 w ⟨a0.a, a0.n, a0.c⟩ a2.n l0 s1 w2 → 
 R (.returned (.slice s1.a s1.n s1.c)) w2)
 (Br (decide (((IntKind.wrap .i64 (((a0.n : Nat) : Int) + ((a2.n : Nat) : Int))) : Int) > ((a0.c : Nat) : Int)))
 ((0 : Int) ≤ a1 ∧ a1 ≤ ((a0.c : Nat) : Int) ∧ ((0 : Int) ≤ (IntKind.wrap .i64 ((IntKind.wrap .i64 (((a0.n : Nat) : Int) + ((a2.n : Nat) : Int))) - a1)) ∧ IntKind.wrap .i64 (IntKind.wrap .i64 ((IntKind.wrap .i64 (((a0.n : Nat) : Int) + ((a2.n : Nat) : Int))) - a1)) = (IntKind.wrap .i64 ((IntKind.wrap .i64 (((a0.n : Nat) : Int) + ((a2.n : Nat) : Int))) - a1)) ∧ ((IntKind.wrap .i64 ((IntKind.wrap .i64 (((a0.n : Nat) : Int) + ((a2.n : Nat) : Int))) - a1)) : Int) * 32 ≤ 281474976710656) ∧ AppPre 32 4 w ⟨(slBase a0.a (0) (a0.c) 4), ((a1 : Int).toNat - 0), (a0.c - 0)⟩ ((IntKind.wrap .i64 ((IntKind.wrap .i64 (((a0.n : Nat) : Int) + ((a2.n : Nat) : Int))) - a1)) : Int).toNat (zeroRows [.int .i64 0, .int .i64 0, .int .i64 0, .int .i64 0] ((IntKind.wrap .i64 ((IntKind.wrap .i64 (((a0.n : Nat) : Int) + ((a2.n : Nat) : Int))) - a1)) : Int).toNat) ∧ ∀ (s3 : Sl) (w4 : World), AppRes 36 4 w ⟨(slBase a0.a (0) (a0.c) 4), ((a1 : Int).toNat - 0), (a0.c - 0)⟩ ((IntKind.wrap .i64 ((IntKind.wrap .i64 (((a0.n : Nat) : Int) + ((a2.n : Nat) : Int))) - a1)) : Int).toNat (zeroRows [.int .i64 0, .int .i64 0, .int .i64 0, .int .i64 0] ((IntKind.wrap .i64 ((IntKind.wrap .i64 (((a0.n : Nat) : Int) + ((a2.n : Nat) : Int))) - a1)) : Int).toNat) s3 w4 → 
 (0 : Int) ≤ a1 ∧ a1 ≤ ((s3.n : Nat) : Int) ∧ ∃ l5 : List Value, (l5.length = min a2.n (s3.n - (a1 : Int).toNat) * 4 ∧ Rd w4 a2.a l5 ∧ One l5 ∧ Wr w4 (slBase s3.a ((a1 : Int).toNat) (s3.c) 4) l5.length) ∧ (∀ w6 : World, w6 = setP w4 (slBase s3.a ((a1 : Int).toNat) (s3.c) 4) l5 →
 (0 : Int) ≤ (IntKind.wrap .i64 (a1 + ((a2.n : Nat) : Int))) ∧ (IntKind.wrap .i64 (a1 + ((a2.n : Nat) : Int))) ≤ ((s3.n : Nat) : Int) ∧ (0 : Int) ≤ a1 ∧ a1 ≤ ((a0.n : Nat) : Int) ∧ ∃ l7 : List Value, (l7.length = min (a0.n - (a1 : Int).toNat) (s3.n - ((IntKind.wrap .i64 (a1 + ((a2.n : Nat) : Int))) : Int).toNat) * 4 ∧ Rd w6.drew (slBase a0.a ((a1 : Int).toNat) (a0.c) 4) l7 ∧ One l7 ∧ Wr w6.drew (slBase s3.a (((IntKind.wrap .i64 (a1 + ((a2.n : Nat) : Int))) : Int).toNat) (s3.c) 4) l7.length) ∧ (∀ w8 : World, w8 = setP w6.drew (slBase s3.a (((IntKind.wrap .i64 (a1 + ((a2.n : Nat) : Int))) : Int).toNat) (s3.c) 4) l7 →
 R (.returned (.slice s3.a s3.n s3.c)) w8)))
 ((0 : Int) ≤ (IntKind.wrap .i64 (((a0.n : Nat) : Int) + ((a2.n : Nat) : Int))) ∧ (IntKind.wrap .i64 (((a0.n : Nat) : Int) + ((a2.n : Nat) : Int))) ≤ ((a0.c : Nat) : Int) ∧ (0 : Int) ≤ (IntKind.wrap .i64 (a1 + ((a2.n : Nat) : Int))) ∧ (IntKind.wrap .i64 (a1 + ((a2.n : Nat) : Int))) ≤ (((((IntKind.wrap .i64 (((a0.n : Nat) : Int) + ((a2.n : Nat) : Int))) : Int).toNat - 0) : Nat) : Int) ∧ ExtC Try.prog 40 [.slice a2.a a2.n a2.c, .slice (slBase (slBase a0.a (0) (a0.c) 4) (((IntKind.wrap .i64 (a1 + ((a2.n : Nat) : Int))) : Int).toNat) ((a0.c - 0)) 4) ((((IntKind.wrap .i64 (((a0.n : Nat) : Int) + ((a2.n : Nat) : Int))) : Int).toNat - 0) - ((IntKind.wrap .i64 (a1 + ((a2.n : Nat) : Int))) : Int).toNat) ((a0.c - 0) - ((IntKind.wrap .i64 (a1 + ((a2.n : Nat) : Int))) : Int).toNat)] w (fun e w9 => ∃ (b10 : Bool), e = .returned (.bool b10) ∧ 
 Br (!b10)
 ((0 : Int) ≤ (IntKind.wrap .i64 (a1 + ((a2.n : Nat) : Int))) ∧ (IntKind.wrap .i64 (a1 + ((a2.n : Nat) : Int))) ≤ (((((IntKind.wrap .i64 (((a0.n : Nat) : Int) + ((a2.n : Nat) : Int))) : Int).toNat - 0) : Nat) : Int) ∧ (0 : Int) ≤ a1 ∧ a1 ≤ (((((IntKind.wrap .i64 (((a0.n : Nat) : Int) + ((a2.n : Nat) : Int))) : Int).toNat - 0) : Nat) : Int) ∧ ∃ l11 : List Value, (l11.length = min ((((IntKind.wrap .i64 (((a0.n : Nat) : Int) + ((a2.n : Nat) : Int))) : Int).toNat - 0) - (a1 : Int).toNat) ((((IntKind.wrap .i64 (((a0.n : Nat) : Int) + ((a2.n : Nat) : Int))) : Int).toNat - 0) - ((IntKind.wrap .i64 (a1 + ((a2.n : Nat) : Int))) : Int).toNat) * 4 ∧ Rd w9.drew (slBase (slBase a0.a (0) (a0.c) 4) ((a1 : Int).toNat) ((a0.c - 0)) 4) l11 ∧ One l11 ∧ Wr w9.drew (slBase (slBase a0.a (0) (a0.c) 4) (((IntKind.wrap .i64 (a1 + ((a2.n : Nat) : Int))) : Int).toNat) ((a0.c - 0)) 4) l11.length) ∧ (∀ w12 : World, w12 = setP w9.drew (slBase (slBase a0.a (0) (a0.c) 4) (((IntKind.wrap .i64 (a1 + ((a2.n : Nat) : Int))) : Int).toNat) ((a0.c - 0)) 4) l11 →
 (0 : Int) ≤ a1 ∧ a1 ≤ (((((IntKind.wrap .i64 (((a0.n : Nat) : Int) + ((a2.n : Nat) : Int))) : Int).toNat - 0) : Nat) : Int) ∧ ∃ l13 : List Value, (l13.length = min a2.n ((((IntKind.wrap .i64 (((a0.n : Nat) : Int) + ((a2.n : Nat) : Int))) : Int).toNat - 0) - (a1 : Int).toNat) * 4 ∧ Rd w12 a2.a l13 ∧ One l13 ∧ Wr w12 (slBase (slBase a0.a (0) (a0.c) 4) ((a1 : Int).toNat) ((a0.c - 0)) 4) l13.length) ∧ (∀ w14 : World, w14 = setP w12 (slBase (slBase a0.a (0) (a0.c) 4) ((a1 : Int).toNat) ((a0.c - 0)) 4) l13 →
 R (.returned (.slice (slBase a0.a (0) (a0.c) 4) (((IntKind.wrap .i64 (((a0.n : Nat) : Int) + ((a2.n : Nat) : Int))) : Int).toNat - 0) (a0.c - 0))) w14)))
 ((0 : Int) ≤ ((a0.n : Nat) : Int) ∧ ((a0.n : Nat) : Int) ≤ (((((IntKind.wrap .i64 (((a0.n : Nat) : Int) + ((a2.n : Nat) : Int))) : Int).toNat - 0) : Nat) : Int) ∧ ∃ l15 : List Value, (l15.length = min a2.n ((((IntKind.wrap .i64 (((a0.n : Nat) : Int) + ((a2.n : Nat) : Int))) : Int).toNat - 0) - (((a0.n : Nat) : Int) : Int).toNat) * 4 ∧ Rd w9 a2.a l15 ∧ One l15 ∧ Wr w9 (slBase (slBase a0.a (0) (a0.c) 4) ((((a0.n : Nat) : Int) : Int).toNat) ((a0.c - 0)) 4) l15.length) ∧ (∀ w16 : World, w16 = setP w9 (slBase (slBase a0.a (0) (a0.c) 4) ((((a0.n : Nat) : Int) : Int).toNat) ((a0.c - 0)) 4) l15 →
 (0 : Int) ≤ a1 ∧ a1 ≤ (((((IntKind.wrap .i64 (((a0.n : Nat) : Int) + ((a2.n : Nat) : Int))) : Int).toNat - 0) : Nat) : Int) ∧ Calls Try.prog n_slices_rotateRight_Item #[.slice (slBase (slBase a0.a (0) (a0.c) 4) ((a1 : Int).toNat) ((a0.c - 0)) 4) ((((IntKind.wrap .i64 (((a0.n : Nat) : Int) + ((a2.n : Nat) : Int))) : Int).toNat - 0) - (a1 : Int).toNat) ((a0.c - 0) - (a1 : Int).toNat), .int .i64 ((a2.n : Nat) : Int)] w16 (fun e w17 => e = .returned (.tuple #[]) ∧ 
 R (.returned (.slice (slBase a0.a (0) (a0.c) 4) (((IntKind.wrap .i64 (((a0.n : Nat) : Int) + ((a2.n : Nat) : Int))) : Int).toNat - 0) (a0.c - 0))) w17)))))))
theorem slices_Insert_Item.vc {a0 a1 a2 w} {R : Ending → World → Prop} (h : slices_Insert_Item.pre a0 a1 a2 w R) : Calls Try.prog n_slices_Insert_Item #[.slice a0.a a0.n a0.c, .int .i64 a1, .slice a2.a a2.n a2.c] w R :=
  calls_of_eq (an := ⟨[], [], []⟩) (args := [.slice a0.a a0.n a0.c, .int .i64 a1, .slice a2.a a2.n a2.c]) Try.noNG Try.mixed Try.func35 h (by kernel_rfl)

/- breccia/brecciaref17.Find  -/
def ref17_Find.pre (a0_0 : Int) (a0_1 : Int) (a0_2 : Sl) (a1_0 : Int) (a1_1 : Int) (a1_2 : Int) (w : World) (R : Ending → World → Prop) : Prop :=
 ∀ w0 : World, w0 = w.alloc (.cells #[.int .i64 a0_0, .int .i64 a0_1, .slice a0_2.a a0_2.n a0_2.c] 43) →
 ∀ w1 : World, w1 = w0.alloc (.cells #[.int .i64 a1_0, .int .i64 a1_1, .int .i64 a1_2] 28) →
 ∃ I2 : Nat → Int → World → Prop,
 (∃ n3, ([.int .i64 a0_0, .int .i64 a0_1, .slice a0_2.a a0_2.n a0_2.c] : List Value) = [.int .i64 a0_0, .int .i64 a0_1, .slice a0_2.a a0_2.n a0_2.c] ∧ ([.int .i64 a1_0, .int .i64 a1_1, .int .i64 a1_2] : List Value) = [.int .i64 a1_0, .int .i64 a1_1, .int .i64 a1_2] ∧ I2 n3 (0) w1) ∧
 ∀ (n3 : Nat) (us4 : Nat → Value) (x5 : Int) (w6 : World), I2 n3 x5 w6 →
 Br (decide ((x5 : Int) < ((a0_2.n : Nat) : Int)))
 (InB a0_2.a x5 a0_2.n ∧ AndL (nnC (padd a0_2.a ((x5 : Int).toNat * 4))) (∃ (x8 : Int) (x9 : Int) (x10 : Int), LoadL w6.drew (padd (padd a0_2.a ((x5 : Int).toNat * 4)) 1) 0 [.int .i64 x8, .int .i64 x9, .int .i64 x10] ∧
 Br (((x8 : Int) == a1_0) && (((x9 : Int) == a1_1) && ((x10 : Int) == a1_2)))
 (R (.returned (.int .i64 x5)) w6.drew)
 (∃ n7, n7 < n3 ∧ ([.int .i64 a0_0, .int .i64 a0_1, .slice a0_2.a a0_2.n a0_2.c] : List Value) = [.int .i64 a0_0, .int .i64 a0_1, .slice a0_2.a a0_2.n a0_2.c] ∧ ([.int .i64 a1_0, .int .i64 a1_1, .int .i64 a1_2] : List Value) = [.int .i64 a1_0, .int .i64 a1_1, .int .i64 a1_2] ∧ I2 n7 ((IntKind.wrap .i64 (x5 + 1))) w6.drew)))
 (R (.returned (.int .i64 (-1))) w6)
theorem ref17_Find.vc {a0_0 a0_1 a0_2 a1_0 a1_1 a1_2 w} {R : Ending → World → Prop} (h : ref17_Find.pre a0_0 a0_1 a0_2 a1_0 a1_1 a1_2 w R) : Calls Try.prog n_ref17_Find #[.agg #[.int .i64 a0_0, .int .i64 a0_1, .slice a0_2.a a0_2.n a0_2.c], .agg #[.int .i64 a1_0, .int .i64 a1_1, .int .i64 a1_2]] w R :=
  calls_of_eq (an := ⟨[(2, ⟨[(5, .int .i64)], [], []⟩)], [], []⟩) (args := [.agg #[.int .i64 a0_0, .int .i64 a0_1, .slice a0_2.a a0_2.n a0_2.c], .agg #[.int .i64 a1_0, .int .i64 a1_1, .int .i64 a1_2]]) Try.noNG Try.mixed Try.func36 h (by kernel_rfl)

/- slices.Clone[[]breccia/queue.Item,breccia/queue.Item]  -/
def slices_Clone_Item.pre (a0 : Sl) (w : World) (R : Ending → World → Prop) : Prop :=
 Br (a0.a).isNone
 (R (.returned (.slice none 0 0)) w)
 (∀ w0 : World, w0 = w.alloc (.cells #[] 36) →
 ∃ l1 : List Value, Rd w0 a0.a l1 ∧ AppPre 32 4 w0 ⟨(some ⟨w.heap.size, 0, none⟩), 0, 0⟩ a0.n l1 ∧ ∀ (s2 : Sl) (w3 : World), AppRes 36 4 w0 ⟨(some ⟨w.heap.size, 0, none⟩), 0, 0⟩ a0.n l1 s2 w3 → w3.heap[w.heap.size]? = w0.heap[w.heap.size]? ∧ 
 R (.returned (.slice s2.a s2.n s2.c)) w3)
theorem slices_Clone_Item.vc {a0 w} {R : Ending → World → Prop} (h : slices_Clone_Item.pre a0 w R) : Calls Try.prog n_slices_Clone_Item #[.slice a0.a a0.n a0.c] w R :=
  calls_of_eq (an := ⟨[], [], []⟩) (args := [.slice a0.a a0.n a0.c]) Try.noNG Try.mixed Try.func37 h (by kernel_rfl)

/- slices.IndexFunc[[]breccia/queue.Item,breccia/queue.Item]  -/
def slices_IndexFunc_Item.pre (a0 : Sl) (a1 : Value) (w : World) (R : Ending → World → Prop) : Prop :=
 ∃ I0 : Nat → Int → World → Prop,
 (∃ n1, I0 n1 (0) w) ∧
 ∀ (n1 : Nat) (us2 : Nat → Value) (x3 : Int) (w4 : World), I0 n1 x3 w4 →
 Br (decide ((x3 : Int) < ((a0.n : Nat) : Int)))
 (InB a0.a x3 a0.n ∧ ∃ (x6 : Int) (x7 : Int) (x8 : Int) (x9 : Int), LoadL w4 (padd a0.a ((x3 : Int).toNat * 4)) 0 [.int .i64 x6, .int .i64 x7, .int .i64 x8, .int .i64 x9] ∧
 callV Try.prog a1 [.agg #[.int .i64 x6, .int .i64 x7, .int .i64 x8, .int .i64 x9]] w4 (fun e w10 => ∃ (b11 : Bool), e = .returned (.bool b11) ∧ 
 Br b11
 (R (.returned (.int .i64 x3)) w10)
 (∃ n5, n5 < n1 ∧ I0 n5 ((IntKind.wrap .i64 (x3 + 1))) w10)))
 (R (.returned (.int .i64 (-1))) w4)
theorem slices_IndexFunc_Item.vc {a0 a1 w} {R : Ending → World → Prop} (h : slices_IndexFunc_Item.pre a0 a1 w R) : Calls Try.prog n_slices_IndexFunc_Item #[.slice a0.a a0.n a0.c, a1] w R :=
  calls_of_eq (an := ⟨[(2, ⟨[(8, .int .i64)], [], []⟩)], [], []⟩) (args := [.slice a0.a a0.n a0.c, a1]) Try.noNG Try.mixed Try.func38 h (by kernel_rfl)

/- cmp.isNaN[int]  -/
def cmp_isNaN_int.pre (a0 : Int) (w : World) (R : Ending → World → Prop) : Prop :=
 R (.returned (.bool ((a0 : Int) != a0))) w
theorem cmp_isNaN_int.vc {a0 w} {R : Ending → World → Prop} (h : cmp_isNaN_int.pre a0 w R) : Calls Try.prog n_cmp_isNaN_int #[.int .i64 a0] w R :=
  calls_of_eq (an := ⟨[], [], []⟩) (args := [.int .i64 a0]) Try.noNG Try.mixed Try.func39 h (by kernel_rfl)

/- slices.rotateRight[breccia/queue.Item]  -/
def slices_rotateRight_Item.pre (a0 : Sl) (a1 : Int) (w : World) (R : Ending → World → Prop) : Prop :=
 Calls Try.prog n_slices_rotateLeft_Item #[.slice a0.a a0.n a0.c, .int .i64 (IntKind.wrap .i64 (((a0.n : Nat) : Int) - a1))] w (fun e w0 => e = .returned (.tuple #[]) ∧ 
 R (.returned (.tuple #[])) w0)
theorem slices_rotateRight_Item.vc {a0 a1 w} {R : Ending → World → Prop} (h : slices_rotateRight_Item.pre a0 a1 w R) : Calls Try.prog n_slices_rotateRight_Item #[.slice a0.a a0.n a0.c, .int .i64 a1] w R :=
  calls_of_eq (an := ⟨[], [], []⟩) (args := [.slice a0.a a0.n a0.c, .int .i64 a1]) Try.noNG Try.mixed Try.func41 h (by kernel_rfl)

/- slices.rotateLeft[breccia/queue.Item]  -/
def slices_rotateLeft_Item.pre (a0 : Sl) (a1 : Int) (w : World) (R : Ending → World → Prop) : Prop :=
 (0 : Int) ≤ a1 ∧ a1 ≤ ((a0.c : Nat) : Int) ∧ Calls Try.prog n_slices_Reverse_Item #[.slice (slBase a0.a (0) (a0.c) 4) ((a1 : Int).toNat - 0) (a0.c - 0)] w (fun e w0 => e = .returned (.tuple #[]) ∧ 
 (0 : Int) ≤ a1 ∧ a1 ≤ ((a0.n : Nat) : Int) ∧ Calls Try.prog n_slices_Reverse_Item #[.slice (slBase a0.a ((a1 : Int).toNat) (a0.c) 4) (a0.n - (a1 : Int).toNat) (a0.c - (a1 : Int).toNat)] w0 (fun e w1 => e = .returned (.tuple #[]) ∧ 
 Calls Try.prog n_slices_Reverse_Item #[.slice a0.a a0.n a0.c] w1 (fun e w2 => e = .returned (.tuple #[]) ∧ 
 R (.returned (.tuple #[])) w2)))
theorem slices_rotateLeft_Item.vc {a0 a1 w} {R : Ending → World → Prop} (h : slices_rotateLeft_Item.pre a0 a1 w R) : Calls Try.prog n_slices_rotateLeft_Item #[.slice a0.a a0.n a0.c, .int .i64 a1] w R :=
  calls_of_eq (an := ⟨[], [], []⟩) (args := [.slice a0.a a0.n a0.c, .int .i64 a1]) Try.noNG Try.mixed Try.func42 h (by kernel_rfl)

/- slices.Reverse[[]breccia/queue.Item,breccia/queue.Item]  -/
def slices_Reverse_Item.pre (a0 : Sl) (w : World) (R : Ending → World → Prop) : Prop :=
 ∃ I0 : Nat → Int → Int → World → Prop,
 (∃ n1, I0 n1 (0) ((IntKind.wrap .i64 (((a0.n : Nat) : Int) - 1))) w) ∧
 ∀ (n1 : Nat) (us2 : Nat → Value) (x3 : Int) (x4 : Int) (w5 : World), I0 n1 x3 x4 w5 →
 Br (decide ((x3 : Int) < x4))
 (InB a0.a x4 a0.n ∧ ∃ (x7 : Int) (x8 : Int) (x9 : Int) (x10 : Int), LoadL w5.drew (padd a0.a ((x4 : Int).toNat * 4)) 0 [.int .i64 x7, .int .i64 x8, .int .i64 x9, .int .i64 x10] ∧
 InB a0.a x3 a0.n ∧ ∃ (x11 : Int) (x12 : Int) (x13 : Int) (x14 : Int), LoadL w5.drew (padd a0.a ((x3 : Int).toNat * 4)) 0 [.int .i64 x11, .int .i64 x12, .int .i64 x13, .int .i64 x14] ∧
 InB a0.a x3 a0.n ∧ (((padd a0.a ((x3 : Int).toNat * 4))).isSome = true ∧ Wr w5.drew (padd a0.a ((x3 : Int).toNat * 4)) 4) ∧ (∀ w15 : World, w15 = setP w5.drew (padd a0.a ((x3 : Int).toNat * 4)) [.int .i64 x7, .int .i64 x8, .int .i64 x9, .int .i64 x10] →
 InB a0.a x4 a0.n ∧ (((padd a0.a ((x4 : Int).toNat * 4))).isSome = true ∧ Wr w15 (padd a0.a ((x4 : Int).toNat * 4)) 4) ∧ (∀ w16 : World, w16 = setP w15 (padd a0.a ((x4 : Int).toNat * 4)) [.int .i64 x11, .int .i64 x12, .int .i64 x13, .int .i64 x14] →
 ∃ n6, n6 < n1 ∧ I0 n6 ((IntKind.wrap .i64 (x3 + 1))) ((IntKind.wrap .i64 (x4 - 1))) w16)))
 (R (.returned (.tuple #[])) w5)
theorem slices_Reverse_Item.vc {a0 w} {R : Ending → World → Prop} (h : slices_Reverse_Item.pre a0 w R) : Calls Try.prog n_slices_Reverse_Item #[.slice a0.a a0.n a0.c] w R :=
  calls_of_eq (an := ⟨[(1, ⟨[(2, .int .i64), (3, .int .i64)], [], []⟩)], [], []⟩) (args := [.slice a0.a a0.n a0.c]) Try.noNG Try.mixed Try.func43 h (by kernel_rfl)


end Go.Proofs.Ytbphdgiepimmkaa
