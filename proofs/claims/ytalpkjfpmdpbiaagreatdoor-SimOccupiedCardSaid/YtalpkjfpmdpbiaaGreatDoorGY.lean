import Derived.Test.YtalpkjfpmdpbiaaGreatDoorGC
set_option linter.all false
namespace Go.Proofs.YtalpkjfpmdpbiaaGreatDoor
open Go Go.Vc Go.RowKit Go.Proofs
set_option maxRecDepth 100000
set_option maxHeartbeats 8000000
set_option linter.unusedVariables false
abbrev n_law19_SimOccupied : FuncId := 4
def law19_SimOccupied.pre (a0 : Int) (a1_0 : Int) (a1_1 : Int) (a1_2 : Int) (a2 : Int) (w : World) (R : Ending → World → Prop) : Prop :=
 ∀ w0 : World, w0 = w.alloc (.cells #[.int .i64 a1_0, .int .i64 a1_1, .int .i64 a1_2] 23) →
 Calls Tryz.prog 12 #[.agg #[.int .i64 a1_0, .int .i64 a1_1, .int .i64 a1_2]] w0 (fun e w1 => ∃ (x2 : Int) (x3 : Int) (x4 : Int), e = .returned (.agg #[.int .i64 x2, .int .i64 x3, .int .i64 x4]) ∧ w1.heap[w.heap.size]? = w0.heap[w.heap.size]? ∧
 ∀ w5 : World, w5 = w1.alloc (.cells #[.int .i64 0, .int .i64 0, .int .i64 0] 23) →
 ∀ w6 : World, w6 = w5.setRow w1.heap.size #[.int .i64 x2, .int .i64 x3, .int .i64 x4] →
 ∀ w7 : World, w7 = w6.setRow w1.heap.size #[.int .i64 x2, .int .i64 (IntKind.wrap .i64 (x3 + 3)), .int .i64 x4] →
 ∀ w8 : World, w8 = w7.alloc (.cells #[] 23) →
 Calls Tryz.prog 9 #[.int .i64 a0, .int .i64 64, .slice (some ⟨w7.heap.size, 0, none⟩) 0 0] w8 (fun e w9 => ∃ (p10 : Option Addr) (x11 : Int) (x12 : Int) (x13 : Int) (x14 : Int) (x15 : Int) (s16 : Sl) (s17 : Sl) (s18 : Sl) (s19 : Sl) (x20 : Int) (x21 : Int) (s22 : Sl) (x23 : Int) (x24 : Int) (s25 : Sl) (s26 : Sl), e = .returned (.tuple #[.pointer p10, .agg #[.int .i64 x11, .int .i64 x12, .int .i64 x13, .int .i64 x14, .int .i64 x15, .slice s16.a s16.n s16.c, .slice s17.a s17.n s17.c, .slice s18.a s18.n s18.c, .slice s19.a s19.n s19.c, .int .i64 x20, .int .i64 x21, .slice s22.a s22.n s22.c, .int .i64 x23, .int .i64 x24, .slice s25.a s25.n s25.c, .slice s26.a s26.n s26.c]]) ∧ w9.heap[w.heap.size]? = w8.heap[w.heap.size]? ∧ w9.heap[w1.heap.size]? = w8.heap[w1.heap.size]? ∧
 ∀ w27 : World, w27 = w9.alloc (.cells #[.int .i64 0, .int .i64 0, .int .i64 0, .int .i64 0, .int .i64 0, .slice none 0 0, .slice none 0 0, .slice none 0 0, .slice none 0 0, .int .i64 0, .int .i64 0, .slice none 0 0, .int .i64 0, .int .i64 0, .slice none 0 0, .slice none 0 0] 39) →
 ∀ w28 : World, w28 = w27.setRow w9.heap.size #[.int .i64 x11, .int .i64 x12, .int .i64 x13, .int .i64 x14, .int .i64 x15, .slice s16.a s16.n s16.c, .slice s17.a s17.n s17.c, .slice s18.a s18.n s18.c, .slice s19.a s19.n s19.c, .int .i64 x20, .int .i64 x21, .slice s22.a s22.n s22.c, .int .i64 x23, .int .i64 x24, .slice s25.a s25.n s25.c, .slice s26.a s26.n s26.c] →
 Br (p10).isNone
 (R (.returned (.bool false)) w28)
 (Calls Tryz.prog 17 #[.pointer p10, .func (.func 18) #[] #[.pointer (some ⟨w1.heap.size, 0, none⟩)]] w28 (fun e w29 => e = .returned (.tuple #[]) ∧ w29.heap[w.heap.size]? = w28.heap[w.heap.size]? ∧ w29.heap[w9.heap.size]? = w28.heap[w9.heap.size]? ∧
 Calls Tryz.prog 10 #[.pointer p10] w29 (fun e w30 => ∃ (p31 : Option Addr), e = .returned (.pointer p31) ∧ w30.heap[w.heap.size]? = w29.heap[w.heap.size]? ∧ w30.heap[w9.heap.size]? = w29.heap[w9.heap.size]? ∧
 Br (p31).isNone
 (R (.returned (.bool false)) w30)
 (Calls Tryz.prog 11 #[.pointer p31] w30 (fun e w32 => ∃ (v33 : Value), e = .returned (v33) ∧ w32.heap[w.heap.size]? = w30.heap[w.heap.size]? ∧ w32.heap[w9.heap.size]? = w30.heap[w9.heap.size]? ∧
 AndL (fnC v33) (Br (isNilF v33)
 (R (.returned (.bool false)) w32)
 (Calls Tryz.prog 19 #[.int .i64 a2, .int .i64 4] w32 (fun e w34 => ∃ (x35 : Int), e = .returned (.int .i64 x35) ∧ w34.heap[w.heap.size]? = w32.heap[w.heap.size]? ∧ w34.heap[w9.heap.size]? = w32.heap[w9.heap.size]? ∧
 ∃ (x36 : Int), ld w34 (some ⟨w1.heap.size, 0, none⟩) = some (.int .i64 x36) ∧
 ∃ (x37 : Int), ld w34 (some ⟨w1.heap.size, 1, none⟩) = some (.int .i64 x37) ∧
 ∃ (x38 : Int), ld w34 (some ⟨w1.heap.size, 2, none⟩) = some (.int .i64 x38) ∧
 Calls Tryz.prog 14 #[.pointer p10, .agg #[.int .i64 x36, .int .i64 (IntKind.wrap .i64 (x37 + (IntKind.wrap .i64 (1 + x35)))), .int .i64 x38], .int .i64 3] w34 (fun e w39 => ∃ (x40 : Int), e = .returned (.int .i64 x40) ∧ w39.heap[w.heap.size]? = w34.heap[w.heap.size]? ∧ w39.heap[w9.heap.size]? = w34.heap[w9.heap.size]? ∧
 Br ((x40 : Int) != 0)
 (R (.returned (.bool false)) w39)
 (Calls Tryz.prog 16 #[.pointer p10, .int .i64 50] w39 (fun e w41 => ∃ (x42 : Int), e = .returned (.int .i64 x42) ∧ w41.heap[w.heap.size]? = w39.heap[w.heap.size]? ∧ w41.heap[w9.heap.size]? = w39.heap[w9.heap.size]? ∧
 Calls Tryz.prog 20 #[.pointer p10] w41 (fun e w43 => ∃ (s44 : Sl), e = .returned (.slice s44.a s44.n s44.c) ∧ w43.heap[w.heap.size]? = w41.heap[w.heap.size]? ∧ w43.heap[w9.heap.size]? = w41.heap[w9.heap.size]? ∧
 ∃ (x45 : Int), ld w43 (some ⟨w1.heap.size, 1, none⟩) = some (.int .i64 x45) ∧
 ∃ I46 : Nat → Int → World → Prop,
 (∃ n47, ([.int .i64 a1_0, .int .i64 a1_1, .int .i64 a1_2] : List Value) = [.int .i64 a1_0, .int .i64 a1_1, .int .i64 a1_2] ∧ ([.int .i64 x11, .int .i64 x12, .int .i64 x13, .int .i64 x14, .int .i64 x15, .slice s16.a s16.n s16.c, .slice s17.a s17.n s17.c, .slice s18.a s18.n s18.c, .slice s19.a s19.n s19.c, .int .i64 x20, .int .i64 x21, .slice s22.a s22.n s22.c, .int .i64 x23, .int .i64 x24, .slice s25.a s25.n s25.c, .slice s26.a s26.n s26.c] : List Value) = [.int .i64 x11, .int .i64 x12, .int .i64 x13, .int .i64 x14, .int .i64 x15, .slice s16.a s16.n s16.c, .slice s17.a s17.n s17.c, .slice s18.a s18.n s18.c, .slice s19.a s19.n s19.c, .int .i64 x20, .int .i64 x21, .slice s22.a s22.n s22.c, .int .i64 x23, .int .i64 x24, .slice s25.a s25.n s25.c, .slice s26.a s26.n s26.c] ∧ I46 n47 (x45) w43) ∧
 ∀ (n47 : Nat) (us48 : Nat → Value) (x49 : Int) (w50 : World), I46 n47 x49 w50 →
 ∃ (x52 : Int), ld w50 (some ⟨w1.heap.size, 1, none⟩) = some (.int .i64 x52) ∧
 Br (decide ((x49 : Int) ≤ (IntKind.wrap .i64 (x52 + (IntKind.wrap .i64 (1 + x35))))))
 (∃ (x53 : Int), ld w50 (some ⟨w1.heap.size, 0, none⟩) = some (.int .i64 x53) ∧
 ∃ (x54 : Int), ld w50 (some ⟨w1.heap.size, 2, none⟩) = some (.int .i64 x54) ∧
 callV Tryz.prog v33 [.agg #[.int .i64 x53, .int .i64 x49, .int .i64 x54]] w50 (fun e w55 => ∃ (x56 : Int), e = .returned (.int .i64 x56) ∧ w55.heap[w.heap.size]? = w50.heap[w.heap.size]? ∧ w55.heap[w9.heap.size]? = w50.heap[w9.heap.size]? ∧
 Br ((x56 : Int) != 0)
 (R (.returned (.bool false)) w55)
 (∃ n51, n51 < n47 ∧ ([.int .i64 a1_0, .int .i64 a1_1, .int .i64 a1_2] : List Value) = [.int .i64 a1_0, .int .i64 a1_1, .int .i64 a1_2] ∧ ([.int .i64 x11, .int .i64 x12, .int .i64 x13, .int .i64 x14, .int .i64 x15, .slice s16.a s16.n s16.c, .slice s17.a s17.n s17.c, .slice s18.a s18.n s18.c, .slice s19.a s19.n s19.c, .int .i64 x20, .int .i64 x21, .slice s22.a s22.n s22.c, .int .i64 x23, .int .i64 x24, .slice s25.a s25.n s25.c, .slice s26.a s26.n s26.c] : List Value) = [.int .i64 x11, .int .i64 x12, .int .i64 x13, .int .i64 x14, .int .i64 x15, .slice s16.a s16.n s16.c, .slice s17.a s17.n s17.c, .slice s18.a s18.n s18.c, .slice s19.a s19.n s19.c, .int .i64 x20, .int .i64 x21, .slice s22.a s22.n s22.c, .int .i64 x23, .int .i64 x24, .slice s25.a s25.n s25.c, .slice s26.a s26.n s26.c] ∧ I46 n51 ((IntKind.wrap .i64 (x49 + 1))) w55)))
 (Br ((x42 : Int) == (IntKind.wrap .i64 (2 * (IntKind.wrap .i64 (1 + x35)))))
 (∃ (x57 : Int) (x58 : Int) (x59 : Int), LoadL w50 (some ⟨w1.heap.size, 0, none⟩) 0 [.int .i64 x57, .int .i64 x58, .int .i64 x59] ∧
 ∀ w60 : World, w60 = w50.alloc (.cells #[.int .i64 x57, .int .i64 x58, .int .i64 x59] 23) →
 Calls Tryz.prog 21 #[.slice s44.a s44.n s44.c, .slice (some ⟨w50.heap.size, 0, none⟩) 1 1] w60 (fun e w61 => ∃ (b62 : Bool), e = .returned (.bool b62) ∧ w61.heap[w.heap.size]? = w60.heap[w.heap.size]? ∧ w61.heap[w9.heap.size]? = w60.heap[w9.heap.size]? ∧
 Br b62
 (Calls Tryz.prog 13 #[] w61 (fun e w63 => ∃ (b64 : Bool), e = .returned (.bool b64) ∧ w63.heap[w.heap.size]? = w61.heap[w.heap.size]? ∧ w63.heap[w9.heap.size]? = w61.heap[w9.heap.size]? ∧
 R (.returned (.bool b64)) w63))
 (R (.returned (.bool false)) w61)))
 (R (.returned (.bool false)) w50))))))))))))))))
theorem law19_SimOccupied.vc {a0 a1_0 a1_1 a1_2 a2 w} {R : Ending → World → Prop} (h : law19_SimOccupied.pre a0 a1_0 a1_1 a1_2 a2 w R) : Calls Tryz.prog n_law19_SimOccupied #[.int .i64 a0, .agg #[.int .i64 a1_0, .int .i64 a1_1, .int .i64 a1_2], .int .i64 a2] w R :=
 calls_of_eq (an := ⟨[(19, ⟨[(15, .int .i64)], [], []⟩)], [], []⟩) (args := [.int .i64 a0, .agg #[.int .i64 a1_0, .int .i64 a1_1, .int .i64 a1_2], .int .i64 a2]) Tryz.noNG Tryz.mixed Tryz.func4 h (by kernel_rfl)
end Go.Proofs.YtalpkjfpmdpbiaaGreatDoor
