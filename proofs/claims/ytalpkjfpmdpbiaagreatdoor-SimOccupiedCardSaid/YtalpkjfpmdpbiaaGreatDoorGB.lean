import Derived.Test.YtalpkjfpmdpbiaaGreatDoorGF
set_option linter.all false
namespace Go.Proofs.YtalpkjfpmdpbiaaGreatDoor
open Go Go.Vc Go.RowKit Go.Proofs
set_option maxRecDepth 100000
set_option maxHeartbeats 8000000
set_option linter.unusedVariables false
abbrev n_ref19_Middle : FuncId := 12
abbrev n_ref19_New : FuncId := 41
abbrev n_law19_begin_1 : FuncId := 42
abbrev n_law19_SimOccupied_1 : FuncId := 18
def ref19_Middle.pre (a0_0 : Int) (a0_1 : Int) (a0_2 : Int) (w : World) (R : Ending → World → Prop) : Prop :=
 ∀ w0 : World, w0 = w.alloc (.cells #[.int .i64 a0_0, .int .i64 a0_1, .int .i64 a0_2] 23) →
 ∀ w1 : World, w1 = w0.alloc (.cells #[.int .i64 0, .int .i64 0, .int .i64 0] 23) →
 Calls Tryz.prog 44 #[.int .i64 a0_0, .int .i64 6] w1.drew (fun e w2 => ∃ (x3 : Int), e = .returned (.int .i64 x3) ∧ w2.heap[w.heap.size]? = w1.drew.heap[w.heap.size]? ∧ w2.heap[w0.heap.size]? = w1.drew.heap[w0.heap.size]? ∧
 LoadL w2 (some ⟨w.heap.size, 2, none⟩) 0 [.int .i64 a0_2] ∧ LoadL w2 (some ⟨w.heap.size, 1, none⟩) 0 [.int .i64 a0_1] ∧ Calls Tryz.prog 44 #[.int .i64 a0_1, .int .i64 9] w2 (fun e w4 => ∃ (x5 : Int), e = .returned (.int .i64 x5) ∧ w4.heap[w.heap.size]? = w2.heap[w.heap.size]? ∧ w4.heap[w0.heap.size]? = w2.heap[w0.heap.size]? ∧
 LoadL w4 (some ⟨w.heap.size, 2, none⟩) 0 [.int .i64 a0_2] ∧ Calls Tryz.prog 44 #[.int .i64 a0_2, .int .i64 6] w4 (fun e w6 => ∃ (x7 : Int), e = .returned (.int .i64 x7) ∧ w6.heap[w.heap.size]? = w4.heap[w.heap.size]? ∧ w6.heap[w0.heap.size]? = w4.heap[w0.heap.size]? ∧
 ∀ w8 : World, w8 = w6.setRow w0.heap.size #[.int .i64 (IntKind.wrap .i64 (5 + x3)), .int .i64 (IntKind.wrap .i64 (14 + x5)), .int .i64 (IntKind.wrap .i64 (5 + x7))] →
 R (.returned (.agg #[.int .i64 (IntKind.wrap .i64 (5 + x3)), .int .i64 (IntKind.wrap .i64 (14 + x5)), .int .i64 (IntKind.wrap .i64 (5 + x7))])) w8)))
theorem ref19_Middle.vc {a0_0 a0_1 a0_2 w} {R : Ending → World → Prop} (h : ref19_Middle.pre a0_0 a0_1 a0_2 w R) : Calls Tryz.prog n_ref19_Middle #[.agg #[.int .i64 a0_0, .int .i64 a0_1, .int .i64 a0_2]] w R :=
 calls_of_eq (an := ⟨[], [], []⟩) (args := [.agg #[.int .i64 a0_0, .int .i64 a0_1, .int .i64 a0_2]]) Tryz.noNG Tryz.mixed Tryz.func12 h (by kernel_rfl)
def ref19_New.pre (a0_0 : Int) (a0_1 : Int) (a0_2 : Int) (a0_3 : Int) (a0_4 : Int) (a0_5 : Sl) (a0_6 : Sl) (a0_7 : Sl) (a0_8 : Sl) (a1 : Int) (w : World) (R : Ending → World → Prop) : Prop :=
 ∀ w0 : World, w0 = w.alloc (.cells #[.int .i64 a0_0, .int .i64 a0_1, .int .i64 a0_2, .int .i64 a0_3, .int .i64 a0_4, .slice a0_5.a a0_5.n a0_5.c, .slice a0_6.a a0_6.n a0_6.c, .slice a0_7.a a0_7.n a0_7.c, .slice a0_8.a a0_8.n a0_8.c] 33) →
 ∀ w1 : World, w1 = w0.alloc (.cells #[.int .i64 0, .int .i64 0, .int .i64 0, .int .i64 0, .int .i64 0, .slice none 0 0, .slice none 0 0, .slice none 0 0, .slice none 0 0, .int .i64 0, .int .i64 0, .slice none 0 0, .int .i64 0, .int .i64 0, .slice none 0 0, .slice none 0 0] 39) →
 Calls Tryz.prog 84 #[.int .i64 4096] w1.drew (fun e w2 => ∃ (x3 : Int) (x4 : Int) (s5 : Sl), e = .returned (.agg #[.int .i64 x3, .int .i64 x4, .slice s5.a s5.n s5.c]) ∧ w2.heap[w.heap.size]? = w1.drew.heap[w.heap.size]? ∧ w2.heap[w0.heap.size]? = w1.drew.heap[w0.heap.size]? ∧
 LoadL w2 (some ⟨w.heap.size, 0, none⟩) 0 [.int .i64 a0_0, .int .i64 a0_1, .int .i64 a0_2, .int .i64 a0_3, .int .i64 a0_4, .slice a0_5.a a0_5.n a0_5.c, .slice a0_6.a a0_6.n a0_6.c, .slice a0_7.a a0_7.n a0_7.c, .slice a0_8.a a0_8.n a0_8.c] ∧ ∀ w6 : World, w6 = w2.setRow w0.heap.size #[.int .i64 a0_0, .int .i64 a0_1, .int .i64 a0_2, .int .i64 a0_3, .int .i64 a0_4, .slice a0_5.a a0_5.n a0_5.c, .slice a0_6.a a0_6.n a0_6.c, .slice a0_7.a a0_7.n a0_7.c, .slice a0_8.a a0_8.n a0_8.c, .int .i64 x3, .int .i64 x4, .slice s5.a s5.n s5.c, .int .i64 (if 64 < (if 1 > a1 then 1 else a1) then 64 else (if 1 > a1 then 1 else a1)), .int .i64 0, .slice none 0 0, .slice none 0 0] →
 R (.returned (.agg #[.int .i64 a0_0, .int .i64 a0_1, .int .i64 a0_2, .int .i64 a0_3, .int .i64 a0_4, .slice a0_5.a a0_5.n a0_5.c, .slice a0_6.a a0_6.n a0_6.c, .slice a0_7.a a0_7.n a0_7.c, .slice a0_8.a a0_8.n a0_8.c, .int .i64 x3, .int .i64 x4, .slice s5.a s5.n s5.c, .int .i64 (if 64 < (if 1 > a1 then 1 else a1) then 64 else (if 1 > a1 then 1 else a1)), .int .i64 0, .slice none 0 0, .slice none 0 0])) w6)
theorem ref19_New.vc {a0_0 a0_1 a0_2 a0_3 a0_4 a0_5 a0_6 a0_7 a0_8 a1 w} {R : Ending → World → Prop} (h : ref19_New.pre a0_0 a0_1 a0_2 a0_3 a0_4 a0_5 a0_6 a0_7 a0_8 a1 w R) : Calls Tryz.prog n_ref19_New #[.agg #[.int .i64 a0_0, .int .i64 a0_1, .int .i64 a0_2, .int .i64 a0_3, .int .i64 a0_4, .slice a0_5.a a0_5.n a0_5.c, .slice a0_6.a a0_6.n a0_6.c, .slice a0_7.a a0_7.n a0_7.c, .slice a0_8.a a0_8.n a0_8.c], .int .i64 a1] w R :=
 calls_of_eq (an := ⟨[], [], []⟩) (args := [.agg #[.int .i64 a0_0, .int .i64 a0_1, .int .i64 a0_2, .int .i64 a0_3, .int .i64 a0_4, .slice a0_5.a a0_5.n a0_5.c, .slice a0_6.a a0_6.n a0_6.c, .slice a0_7.a a0_7.n a0_7.c, .slice a0_8.a a0_8.n a0_8.c], .int .i64 a1]) Tryz.noNG Tryz.mixed Tryz.func41 h (by kernel_rfl)
def law19_begin_1.pre (a0_0 : Int) (a0_1 : Int) (a0_2 : Int) (c0 : Addr) (w : World) (R : Ending → World → Prop) : Prop :=
 ∀ w0 : World, w0 = w.alloc (.cells #[.int .i64 a0_0, .int .i64 a0_1, .int .i64 a0_2] 23) →
 ∃ I1 : Nat → Int → World → Prop,
 (∃ n2, ([.int .i64 a0_0, .int .i64 a0_1, .int .i64 a0_2] : List Value) = [.int .i64 a0_0, .int .i64 a0_1, .int .i64 a0_2] ∧ I1 n2 (0) w0) ∧
 ∀ (n2 : Nat) (us3 : Nat → Value) (x4 : Int) (w5 : World), I1 n2 x4 w5 →
 ∃ (s7 : Sl), ld w5 (some c0) = some (.slice s7.a s7.n s7.c) ∧
 Br (decide ((x4 : Int) < ((s7.n : Nat) : Int)))
 (∃ (s8 : Sl), ld w5.drew (some c0) = some (.slice s8.a s8.n s8.c) ∧
 InB s8.a x4 s8.n ∧ ∃ (x9 : Int) (x10 : Int) (x11 : Int), LoadL w5.drew (padd s8.a ((x4 : Int).toNat * 3)) 0 [.int .i64 x9, .int .i64 x10, .int .i64 x11] ∧
 Br (((x9 : Int) == a0_0) && (((x10 : Int) == a0_1) && ((x11 : Int) == a0_2)))
 (R (.returned (.bool true)) w5.drew)
 (∃ n6, n6 < n2 ∧ ([.int .i64 a0_0, .int .i64 a0_1, .int .i64 a0_2] : List Value) = [.int .i64 a0_0, .int .i64 a0_1, .int .i64 a0_2] ∧ I1 n6 ((IntKind.wrap .i64 (x4 + 1))) w5.drew))
 (R (.returned (.bool false)) w5)
theorem law19_begin_1.vc {a0_0 a0_1 a0_2 c0 w} {R : Ending → World → Prop} (h : law19_begin_1.pre a0_0 a0_1 a0_2 c0 w R) : Calls Tryz.prog n_law19_begin_1 #[.agg #[.int .i64 a0_0, .int .i64 a0_1, .int .i64 a0_2], .pointer (some c0)] w R :=
 calls_of_eq (an := ⟨[(2, ⟨[(4, .int .i64)], [], []⟩)], [], []⟩) (args := [.agg #[.int .i64 a0_0, .int .i64 a0_1, .int .i64 a0_2], .pointer (some c0)]) Tryz.noNG Tryz.mixed Tryz.func42 h (by kernel_rfl)
def law19_SimOccupied_1.pre (a0_0 : Int) (a0_1 : Int) (a0_2 : Int) (c0 : Addr) (w : World) (R : Ending → World → Prop) : Prop :=
 ∀ w0 : World, w0 = w.alloc (.cells #[.int .i64 a0_0, .int .i64 a0_1, .int .i64 a0_2] 23) →
 ∃ (x1 : Int) (x2 : Int) (x3 : Int), LoadL w0 (some c0) 0 [.int .i64 x1, .int .i64 x2, .int .i64 x3] ∧
 R (.returned (.bool (((a0_0 : Int) == x1) && (((a0_1 : Int) == x2) && ((a0_2 : Int) == x3))))) w0
theorem law19_SimOccupied_1.vc {a0_0 a0_1 a0_2 c0 w} {R : Ending → World → Prop} (h : law19_SimOccupied_1.pre a0_0 a0_1 a0_2 c0 w R) : Calls Tryz.prog n_law19_SimOccupied_1 #[.agg #[.int .i64 a0_0, .int .i64 a0_1, .int .i64 a0_2], .pointer (some c0)] w R :=
 calls_of_eq (an := ⟨[], [], []⟩) (args := [.agg #[.int .i64 a0_0, .int .i64 a0_1, .int .i64 a0_2], .pointer (some c0)]) Tryz.noNG Tryz.mixed Tryz.func18 h (by kernel_rfl)
end Go.Proofs.YtalpkjfpmdpbiaaGreatDoor
