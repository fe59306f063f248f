import Derived.Test.YtalpkjfpmdpbiaaGreatDoorGC
set_option linter.all false
namespace Go.Proofs.YtalpkjfpmdpbiaaGreatDoor
open Go Go.Vc Go.RowKit Go.Proofs
set_option maxRecDepth 100000
set_option maxHeartbeats 8000000
set_option linter.unusedVariables false
abbrev n_law19_SimStill : FuncId := 5
def law19_SimStill.pre (a0 : Int) (a1 : Int) (a2 : Int) (a3 : Sl) (w : World) (R : Ending → World → Prop) : Prop :=
 Calls Tryz.prog 9 #[.int .i64 a0, .int .i64 a1, .slice none 0 0] w (fun e w0 => ∃ (p1 : Option Addr) (x2 : Int) (x3 : Int) (x4 : Int) (x5 : Int) (x6 : Int) (s7 : Sl) (s8 : Sl) (s9 : Sl) (s10 : Sl) (x11 : Int) (x12 : Int) (s13 : Sl) (x14 : Int) (x15 : Int) (s16 : Sl) (s17 : Sl), e = .returned (.tuple #[.pointer p1, .agg #[.int .i64 x2, .int .i64 x3, .int .i64 x4, .int .i64 x5, .int .i64 x6, .slice s7.a s7.n s7.c, .slice s8.a s8.n s8.c, .slice s9.a s9.n s9.c, .slice s10.a s10.n s10.c, .int .i64 x11, .int .i64 x12, .slice s13.a s13.n s13.c, .int .i64 x14, .int .i64 x15, .slice s16.a s16.n s16.c, .slice s17.a s17.n s17.c]]) ∧
 ∀ w18 : World, w18 = w0.alloc (.cells #[.int .i64 0, .int .i64 0, .int .i64 0, .int .i64 0, .int .i64 0, .slice none 0 0, .slice none 0 0, .slice none 0 0, .slice none 0 0, .int .i64 0, .int .i64 0, .slice none 0 0, .int .i64 0, .int .i64 0, .slice none 0 0, .slice none 0 0] 39) →
 ∀ w19 : World, w19 = w18.setRow w0.heap.size #[.int .i64 x2, .int .i64 x3, .int .i64 x4, .int .i64 x5, .int .i64 x6, .slice s7.a s7.n s7.c, .slice s8.a s8.n s8.c, .slice s9.a s9.n s9.c, .slice s10.a s10.n s10.c, .int .i64 x11, .int .i64 x12, .slice s13.a s13.n s13.c, .int .i64 x14, .int .i64 x15, .slice s16.a s16.n s16.c, .slice s17.a s17.n s17.c] →
 Br (p1).isNone
 (R (.returned (.bool false)) w19)
 (∃ J20 : World → Prop,
 (∃ I21 : Nat → Int → World → Prop,
 (∃ n22, ([.int .i64 x2, .int .i64 x3, .int .i64 x4, .int .i64 x5, .int .i64 x6, .slice s7.a s7.n s7.c, .slice s8.a s8.n s8.c, .slice s9.a s9.n s9.c, .slice s10.a s10.n s10.c, .int .i64 x11, .int .i64 x12, .slice s13.a s13.n s13.c, .int .i64 x14, .int .i64 x15, .slice s16.a s16.n s16.c, .slice s17.a s17.n s17.c] : List Value) = [.int .i64 x2, .int .i64 x3, .int .i64 x4, .int .i64 x5, .int .i64 x6, .slice s7.a s7.n s7.c, .slice s8.a s8.n s8.c, .slice s9.a s9.n s9.c, .slice s10.a s10.n s10.c, .int .i64 x11, .int .i64 x12, .slice s13.a s13.n s13.c, .int .i64 x14, .int .i64 x15, .slice s16.a s16.n s16.c, .slice s17.a s17.n s17.c] ∧ I21 n22 (0) w19) ∧
 ∀ (n22 : Nat) (us23 : Nat → Value) (x24 : Int) (w25 : World), I21 n22 x24 w25 →
 Br (decide ((x24 : Int) < ((a3.n : Nat) : Int)))
 (Br (decide ((x24 : Int) < 5))
 (InB a3.a x24 a3.n ∧ ∃ (x27 : Int) (x28 : Int) (x29 : Int), LoadL w25 (padd a3.a ((x24 : Int).toNat * 3)) 0 [.int .i64 x27, .int .i64 x28, .int .i64 x29] ∧
 Calls Tryz.prog 12 #[.agg #[.int .i64 x27, .int .i64 x28, .int .i64 x29]] w25 (fun e w30 => ∃ (x31 : Int) (x32 : Int) (x33 : Int), e = .returned (.agg #[.int .i64 x31, .int .i64 x32, .int .i64 x33]) ∧ w30.heap[w0.heap.size]? = w25.heap[w0.heap.size]? ∧
 ∀ w34 : World, w34 = w30.alloc (.cells #[.int .i64 0, .int .i64 0, .int .i64 0] 23) →
 ∀ w35 : World, w35 = w34.setRow w30.heap.size #[.int .i64 x31, .int .i64 x32, .int .i64 x33] →
 ∀ w36 : World, w36 = w35.alloc (.cells #[.int .i64 0, .int .i64 0, .int .i64 0] 23) →
 ∀ w37 : World, w37 = w36.setRow w35.heap.size #[.int .i64 x31, .int .i64 (IntKind.wrap .i64 (x32 + 4)), .int .i64 x33] →
 Calls Tryz.prog 22 #[.agg #[.int .i64 x2, .int .i64 x3, .int .i64 x4, .int .i64 x5, .int .i64 x6, .slice s7.a s7.n s7.c, .slice s8.a s8.n s8.c, .slice s9.a s9.n s9.c], .agg #[.int .i64 x31, .int .i64 (IntKind.wrap .i64 (x32 + 4)), .int .i64 x33]] w37 (fun e w38 => ∃ (x39 : Int), e = .returned (.int .i64 x39) ∧ w38.heap[w0.heap.size]? = w37.heap[w0.heap.size]? ∧ w38.heap[w30.heap.size]? = w37.heap[w30.heap.size]? ∧ w38.heap[w35.heap.size]? = w37.heap[w35.heap.size]? ∧
 Br ((x39 : Int) != 0)
 (R (.returned (.bool false)) w38)
 (Calls Tryz.prog 14 #[.pointer p1, .agg #[.int .i64 x31, .int .i64 (IntKind.wrap .i64 (x32 + 4)), .int .i64 x33], .int .i64 0] w38 (fun e w40 => ∃ (x41 : Int), e = .returned (.int .i64 x41) ∧ w40.heap[w0.heap.size]? = w38.heap[w0.heap.size]? ∧ w40.heap[w30.heap.size]? = w38.heap[w30.heap.size]? ∧ w40.heap[w35.heap.size]? = w38.heap[w35.heap.size]? ∧
 Br ((x41 : Int) != 0)
 (R (.returned (.bool false)) w40)
 (∃ n26, n26 < n22 ∧ ([.int .i64 x2, .int .i64 x3, .int .i64 x4, .int .i64 x5, .int .i64 x6, .slice s7.a s7.n s7.c, .slice s8.a s8.n s8.c, .slice s9.a s9.n s9.c, .slice s10.a s10.n s10.c, .int .i64 x11, .int .i64 x12, .slice s13.a s13.n s13.c, .int .i64 x14, .int .i64 x15, .slice s16.a s16.n s16.c, .slice s17.a s17.n s17.c] : List Value) = [.int .i64 x2, .int .i64 x3, .int .i64 x4, .int .i64 x5, .int .i64 x6, .slice s7.a s7.n s7.c, .slice s8.a s8.n s8.c, .slice s9.a s9.n s9.c, .slice s10.a s10.n s10.c, .int .i64 x11, .int .i64 x12, .slice s13.a s13.n s13.c, .int .i64 x14, .int .i64 x15, .slice s16.a s16.n s16.c, .slice s17.a s17.n s17.c] ∧ I21 n26 ((IntKind.wrap .i64 (x24 + 1))) w40))))))
 (([.int .i64 x2, .int .i64 x3, .int .i64 x4, .int .i64 x5, .int .i64 x6, .slice s7.a s7.n s7.c, .slice s8.a s8.n s8.c, .slice s9.a s9.n s9.c, .slice s10.a s10.n s10.c, .int .i64 x11, .int .i64 x12, .slice s13.a s13.n s13.c, .int .i64 x14, .int .i64 x15, .slice s16.a s16.n s16.c, .slice s17.a s17.n s17.c] : List Value) = [.int .i64 x2, .int .i64 x3, .int .i64 x4, .int .i64 x5, .int .i64 x6, .slice s7.a s7.n s7.c, .slice s8.a s8.n s8.c, .slice s9.a s9.n s9.c, .slice s10.a s10.n s10.c, .int .i64 x11, .int .i64 x12, .slice s13.a s13.n s13.c, .int .i64 x14, .int .i64 x15, .slice s16.a s16.n s16.c, .slice s17.a s17.n s17.c] ∧ J20  w25))
 (([.int .i64 x2, .int .i64 x3, .int .i64 x4, .int .i64 x5, .int .i64 x6, .slice s7.a s7.n s7.c, .slice s8.a s8.n s8.c, .slice s9.a s9.n s9.c, .slice s10.a s10.n s10.c, .int .i64 x11, .int .i64 x12, .slice s13.a s13.n s13.c, .int .i64 x14, .int .i64 x15, .slice s16.a s16.n s16.c, .slice s17.a s17.n s17.c] : List Value) = [.int .i64 x2, .int .i64 x3, .int .i64 x4, .int .i64 x5, .int .i64 x6, .slice s7.a s7.n s7.c, .slice s8.a s8.n s8.c, .slice s9.a s9.n s9.c, .slice s10.a s10.n s10.c, .int .i64 x11, .int .i64 x12, .slice s13.a s13.n s13.c, .int .i64 x14, .int .i64 x15, .slice s16.a s16.n s16.c, .slice s17.a s17.n s17.c] ∧ J20  w25)) ∧
 ∀ us42 : Nat → Value, ∀ (w43 : World), J20 w43 →
 ∃ I44 : Nat → Int → World → Prop,
 (∃ n45, ([.int .i64 x2, .int .i64 x3, .int .i64 x4, .int .i64 x5, .int .i64 x6, .slice s7.a s7.n s7.c, .slice s8.a s8.n s8.c, .slice s9.a s9.n s9.c, .slice s10.a s10.n s10.c, .int .i64 x11, .int .i64 x12, .slice s13.a s13.n s13.c, .int .i64 x14, .int .i64 x15, .slice s16.a s16.n s16.c, .slice s17.a s17.n s17.c] : List Value) = [.int .i64 x2, .int .i64 x3, .int .i64 x4, .int .i64 x5, .int .i64 x6, .slice s7.a s7.n s7.c, .slice s8.a s8.n s8.c, .slice s9.a s9.n s9.c, .slice s10.a s10.n s10.c, .int .i64 x11, .int .i64 x12, .slice s13.a s13.n s13.c, .int .i64 x14, .int .i64 x15, .slice s16.a s16.n s16.c, .slice s17.a s17.n s17.c] ∧ I44 n45 (0) w43) ∧
 ∀ (n45 : Nat) (us46 : Nat → Value) (x47 : Int) (w48 : World), I44 n45 x47 w48 →
 Calls Tryz.prog 19 #[.int .i64 a2, .int .i64 21] w48 (fun e w50 => ∃ (x51 : Int), e = .returned (.int .i64 x51) ∧ w50.heap[w0.heap.size]? = w48.heap[w0.heap.size]? ∧
 Br (decide ((x47 : Int) < x51))
 (Calls Tryz.prog 15 #[.pointer p1] w50 (fun e w52 => ∃ (x53 : Int), e = .returned (.int .i64 x53) ∧ w52.heap[w0.heap.size]? = w50.heap[w0.heap.size]? ∧
 Br ((x53 : Int) != 0)
 (R (.returned (.bool false)) w52)
 (∃ n49, n49 < n45 ∧ ([.int .i64 x2, .int .i64 x3, .int .i64 x4, .int .i64 x5, .int .i64 x6, .slice s7.a s7.n s7.c, .slice s8.a s8.n s8.c, .slice s9.a s9.n s9.c, .slice s10.a s10.n s10.c, .int .i64 x11, .int .i64 x12, .slice s13.a s13.n s13.c, .int .i64 x14, .int .i64 x15, .slice s16.a s16.n s16.c, .slice s17.a s17.n s17.c] : List Value) = [.int .i64 x2, .int .i64 x3, .int .i64 x4, .int .i64 x5, .int .i64 x6, .slice s7.a s7.n s7.c, .slice s8.a s8.n s8.c, .slice s9.a s9.n s9.c, .slice s10.a s10.n s10.c, .int .i64 x11, .int .i64 x12, .slice s13.a s13.n s13.c, .int .i64 x14, .int .i64 x15, .slice s16.a s16.n s16.c, .slice s17.a s17.n s17.c] ∧ I44 n49 ((IntKind.wrap .i64 (x47 + 1))) w52)))
 (Calls Tryz.prog 10 #[.pointer p1] w50 (fun e w54 => ∃ (p55 : Option Addr), e = .returned (.pointer p55) ∧ w54.heap[w0.heap.size]? = w50.heap[w0.heap.size]? ∧
 Br (p55).isNone
 (R (.returned (.bool false)) w54)
 (Calls Tryz.prog 23 #[.pointer p1] w54 (fun e w56 => ∃ (s57 : Sl), e = .returned (.slice s57.a s57.n s57.c) ∧ w56.heap[w0.heap.size]? = w54.heap[w0.heap.size]? ∧
 Br ((((s57.n : Nat) : Int) : Int) == 0)
 (Calls Tryz.prog 24 #[.pointer p55] w56 (fun e w58 => ∃ (s59 : Sl), e = .returned (.slice s59.a s59.n s59.c) ∧ w58.heap[w0.heap.size]? = w56.heap[w0.heap.size]? ∧
 Br ((((s59.n : Nat) : Int) : Int) == 0)
 (Calls Tryz.prog 16 #[.pointer p1, .int .i64 9] w58 (fun e w60 => ∃ (x61 : Int), e = .returned (.int .i64 x61) ∧ w60.heap[w0.heap.size]? = w58.heap[w0.heap.size]? ∧
 Br ((x61 : Int) == 0)
 (Calls Tryz.prog 13 #[] w60 (fun e w62 => ∃ (b63 : Bool), e = .returned (.bool b63) ∧ w62.heap[w0.heap.size]? = w60.heap[w0.heap.size]? ∧
 R (.returned (.bool b63)) w62))
 (R (.returned (.bool false)) w60)))
 (R (.returned (.bool false)) w58)))
 (R (.returned (.bool false)) w56))))))))
theorem law19_SimStill.vc {a0 a1 a2 a3 w} {R : Ending → World → Prop} (h : law19_SimStill.pre a0 a1 a2 a3 w R) : Calls Tryz.prog n_law19_SimStill #[.int .i64 a0, .int .i64 a1, .int .i64 a2, .slice a3.a a3.n a3.c] w R :=
 calls_of_eq (an := ⟨[(5, ⟨[(11, .int .i64)], [], []⟩), (14, ⟨[(14, .int .i64)], [], []⟩)], [(13, ⟨[], [], []⟩)], []⟩) (args := [.int .i64 a0, .int .i64 a1, .int .i64 a2, .slice a3.a a3.n a3.c]) Tryz.noNG Tryz.mixed Tryz.func5 h (by kernel_rfl)
end Go.Proofs.YtalpkjfpmdpbiaaGreatDoor
