import Derived.Test.YtbnmglonbhdcbaaDoorG
set_option linter.all false
namespace Go.Proofs.YtbnmglonbhdcbaaDoor
open Go Go.Vc Go.RowKit Go.Proofs
set_option maxRecDepth 100000
set_option maxHeartbeats 8000000
set_option linter.unusedVariables false
abbrev n_law12_TablePins : FuncId := 5
/- breccia/breccialaw12.TablePins  -/
def law12_TablePins.pre (a0 : Int) (a1 : Sl) (a2 : Int) (w : World) (R : Ending → World → Prop) : Prop :=
 Calls Tryd.prog 14 #[.int .i64 a0, .int .i64 6] w (fun e w0 => ∃ (x1 : Int), e = .returned (.int .i64 x1) ∧ 
 Calls Tryd.prog 8 #[.int .i64 1, .int .i64 a2, .int .i64 100000] w0 (fun e w2 => ∃ (p3 : Option Addr), e = .returned (.pointer p3) ∧ 
 Br (p3).isNone
 (R (.returned (.bool false)) w2)
 (∀ w4 : World, w4 = w2.alloc (.cells #[.int .i64 0, .int .i64 0] 23) →
 ∀ w5 : World, w5 = w4.setRow w2.heap.size #[.int .i64 9, .int .i64 9] →
 Calls Tryd.prog 9 #[.pointer p3, .agg #[.int .i64 9, .int .i64 9]] w5 (fun e w6 => ∃ (x7 : Int), e = .returned (.int .i64 x7) ∧ w6.heap[w2.heap.size]? = w5.heap[w2.heap.size]? ∧ 
 ∃ I8 : Nat → Int → World → Prop,
 (∃ n9, ([.int .i64 9, .int .i64 9] : List Value) = [.int .i64 9, .int .i64 9] ∧ I8 n9 (0) w6) ∧
 ∀ (n9 : Nat) (us10 : Nat → Value) (x11 : Int) (w12 : World), I8 n9 x11 w12 →
 Br (decide ((x11 : Int) < x1))
 (Calls Tryd.prog 15 #[.pointer p3, .agg #[.int .i64 9, .int .i64 9]] w12 (fun e w14 => ∃ (x15 : Int), e = .returned (.int .i64 x15) ∧ w14.heap[w2.heap.size]? = w12.heap[w2.heap.size]? ∧ 
 Br ((x15 : Int) != 0)
 (R (.returned (.bool false)) w14)
 (∃ n13, n13 < n9 ∧ ([.int .i64 9, .int .i64 9] : List Value) = [.int .i64 9, .int .i64 9] ∧ I8 n13 ((IntKind.wrap .i64 (x11 + 1))) w14)))
 (∃ I16 : Nat → Int → World → Prop,
 (∃ n17, ([.int .i64 9, .int .i64 9] : List Value) = [.int .i64 9, .int .i64 9] ∧ I16 n17 (0) w12) ∧
 ∀ (n17 : Nat) (us18 : Nat → Value) (x19 : Int) (w20 : World), I16 n17 x19 w20 →
 Br (decide ((x19 : Int) < ((a1.n : Nat) : Int)))
 (Br (decide ((x19 : Int) < 8))
 (InB a1.a x19 a1.n ∧ ∃ (x22 : Int) (x23 : Int), LoadL w20 (padd a1.a ((x19 : Int).toNat * 2)) 0 [.int .i64 x22, .int .i64 x23] ∧
 Calls Tryd.prog 11 #[.agg #[.int .i64 x22, .int .i64 x23]] w20 (fun e w24 => ∃ (x25 : Int) (x26 : Int), e = .returned (.agg #[.int .i64 x25, .int .i64 x26]) ∧ w24.heap[w2.heap.size]? = w20.heap[w2.heap.size]? ∧ 
 Calls Tryd.prog 9 #[.pointer p3, .agg #[.int .i64 x25, .int .i64 x26]] w24 (fun e w27 => ∃ (x28 : Int), e = .returned (.int .i64 x28) ∧ w27.heap[w2.heap.size]? = w24.heap[w2.heap.size]? ∧ 
 Br (decide ((x1 : Int) > 0))
 (Calls Tryd.prog 16 #[.pointer p3, .agg #[.int .i64 9, .int .i64 9]] w27 (fun e w29 => ∃ (x30 : Int), e = .returned (.int .i64 x30) ∧ w29.heap[w2.heap.size]? = w27.heap[w2.heap.size]? ∧ 
 Br ((x30 : Int) != x1)
 (R (.returned (.bool false)) w29)
 (Calls Tryd.prog 12 #[.pointer p3] w29 (fun e w31 => ∃ (x32 : Int), e = .returned (.int .i64 x32) ∧ w31.heap[w2.heap.size]? = w29.heap[w2.heap.size]? ∧ 
 Br (!(((x28 : Int) != 0) == ((x32 : Int) == 1)))
 (R (.returned (.bool false)) w31)
 (∃ n21, n21 < n17 ∧ ([.int .i64 9, .int .i64 9] : List Value) = [.int .i64 9, .int .i64 9] ∧ I16 n21 ((IntKind.wrap .i64 (x19 + 1))) w31)))))
 (∃ n21, n21 < n17 ∧ ([.int .i64 9, .int .i64 9] : List Value) = [.int .i64 9, .int .i64 9] ∧ I16 n21 ((IntKind.wrap .i64 (x19 + 1))) w27))))
 (Br ((x1 : Int) == 0)
 (Calls Tryd.prog 16 #[.pointer p3, .agg #[.int .i64 9, .int .i64 9]] w20 (fun e w33 => ∃ (x34 : Int), e = .returned (.int .i64 x34) ∧ w33.heap[w2.heap.size]? = w20.heap[w2.heap.size]? ∧ 
 Br ((x34 : Int) == 0)
 (Calls Tryd.prog 10 #[] w33 (fun e w35 => ∃ (b36 : Bool), e = .returned (.bool b36) ∧ w35.heap[w2.heap.size]? = w33.heap[w2.heap.size]? ∧ 
 R (.returned (.bool b36)) w35))
 (R (.returned (.bool false)) w33)))
 (∃ I37 : Nat → Int → World → Prop,
 (∃ n38, ([.int .i64 9, .int .i64 9] : List Value) = [.int .i64 9, .int .i64 9] ∧ I37 n38 (0) w20) ∧
 ∀ (n38 : Nat) (us39 : Nat → Value) (x40 : Int) (w41 : World), I37 n38 x40 w41 →
 Br (decide ((x40 : Int) < x1))
 (Calls Tryd.prog 17 #[.pointer p3, .agg #[.int .i64 9, .int .i64 9]] w41 (fun e w43 => ∃ (x44 : Int), e = .returned (.int .i64 x44) ∧ w43.heap[w2.heap.size]? = w41.heap[w2.heap.size]? ∧ 
 Br ((x44 : Int) != 10)
 (R (.returned (.bool false)) w43)
 (Calls Tryd.prog 18 #[.pointer p3, .agg #[.int .i64 9, .int .i64 9]] w43 (fun e w45 => ∃ (x46 : Int), e = .returned (.int .i64 x46) ∧ w45.heap[w2.heap.size]? = w43.heap[w2.heap.size]? ∧ 
 Br ((x46 : Int) != 0)
 (R (.returned (.bool false)) w45)
 (∃ n42, n42 < n38 ∧ ([.int .i64 9, .int .i64 9] : List Value) = [.int .i64 9, .int .i64 9] ∧ I37 n42 ((IntKind.wrap .i64 (x40 + 1))) w45)))))
 (Calls Tryd.prog 18 #[.pointer p3, .agg #[.int .i64 9, .int .i64 9]] w41 (fun e w47 => ∃ (x48 : Int), e = .returned (.int .i64 x48) ∧ w47.heap[w2.heap.size]? = w41.heap[w2.heap.size]? ∧ 
 Br ((x48 : Int) == 1)
 (Calls Tryd.prog 17 #[.pointer p3, .agg #[.int .i64 9, .int .i64 9]] w47 (fun e w49 => ∃ (x50 : Int), e = .returned (.int .i64 x50) ∧ w49.heap[w2.heap.size]? = w47.heap[w2.heap.size]? ∧ 
 Br ((x50 : Int) == 0)
 (Calls Tryd.prog 17 #[.pointer p3, .agg #[.int .i64 9, .int .i64 9]] w49 (fun e w51 => ∃ (x52 : Int), e = .returned (.int .i64 x52) ∧ w51.heap[w2.heap.size]? = w49.heap[w2.heap.size]? ∧ 
 Br ((x52 : Int) == 6)
 (Calls Tryd.prog 10 #[] w51 (fun e w53 => ∃ (b54 : Bool), e = .returned (.bool b54) ∧ w53.heap[w2.heap.size]? = w51.heap[w2.heap.size]? ∧ 
 R (.returned (.bool b54)) w53))
 (R (.returned (.bool false)) w51)))
 (R (.returned (.bool false)) w49)))
 (R (.returned (.bool false)) w47))))))
 (Br ((x1 : Int) == 0)
 (Calls Tryd.prog 16 #[.pointer p3, .agg #[.int .i64 9, .int .i64 9]] w20 (fun e w55 => ∃ (x56 : Int), e = .returned (.int .i64 x56) ∧ w55.heap[w2.heap.size]? = w20.heap[w2.heap.size]? ∧ 
 Br ((x56 : Int) == 0)
 (Calls Tryd.prog 10 #[] w55 (fun e w57 => ∃ (b58 : Bool), e = .returned (.bool b58) ∧ w57.heap[w2.heap.size]? = w55.heap[w2.heap.size]? ∧ 
 R (.returned (.bool b58)) w57))
 (R (.returned (.bool false)) w55)))
 (∃ I59 : Nat → Int → World → Prop,
 (∃ n60, ([.int .i64 9, .int .i64 9] : List Value) = [.int .i64 9, .int .i64 9] ∧ I59 n60 (0) w20) ∧
 ∀ (n60 : Nat) (us61 : Nat → Value) (x62 : Int) (w63 : World), I59 n60 x62 w63 →
 Br (decide ((x62 : Int) < x1))
 (Calls Tryd.prog 17 #[.pointer p3, .agg #[.int .i64 9, .int .i64 9]] w63 (fun e w65 => ∃ (x66 : Int), e = .returned (.int .i64 x66) ∧ w65.heap[w2.heap.size]? = w63.heap[w2.heap.size]? ∧ 
 Br ((x66 : Int) != 10)
 (R (.returned (.bool false)) w65)
 (Calls Tryd.prog 18 #[.pointer p3, .agg #[.int .i64 9, .int .i64 9]] w65 (fun e w67 => ∃ (x68 : Int), e = .returned (.int .i64 x68) ∧ w67.heap[w2.heap.size]? = w65.heap[w2.heap.size]? ∧ 
 Br ((x68 : Int) != 0)
 (R (.returned (.bool false)) w67)
 (∃ n64, n64 < n60 ∧ ([.int .i64 9, .int .i64 9] : List Value) = [.int .i64 9, .int .i64 9] ∧ I59 n64 ((IntKind.wrap .i64 (x62 + 1))) w67)))))
 (Calls Tryd.prog 18 #[.pointer p3, .agg #[.int .i64 9, .int .i64 9]] w63 (fun e w69 => ∃ (x70 : Int), e = .returned (.int .i64 x70) ∧ w69.heap[w2.heap.size]? = w63.heap[w2.heap.size]? ∧ 
 Br ((x70 : Int) == 1)
 (Calls Tryd.prog 17 #[.pointer p3, .agg #[.int .i64 9, .int .i64 9]] w69 (fun e w71 => ∃ (x72 : Int), e = .returned (.int .i64 x72) ∧ w71.heap[w2.heap.size]? = w69.heap[w2.heap.size]? ∧ 
 Br ((x72 : Int) == 0)
 (Calls Tryd.prog 17 #[.pointer p3, .agg #[.int .i64 9, .int .i64 9]] w71 (fun e w73 => ∃ (x74 : Int), e = .returned (.int .i64 x74) ∧ w73.heap[w2.heap.size]? = w71.heap[w2.heap.size]? ∧ 
 Br ((x74 : Int) == 6)
 (Calls Tryd.prog 10 #[] w73 (fun e w75 => ∃ (b76 : Bool), e = .returned (.bool b76) ∧ w75.heap[w2.heap.size]? = w73.heap[w2.heap.size]? ∧ 
 R (.returned (.bool b76)) w75))
 (R (.returned (.bool false)) w73)))
 (R (.returned (.bool false)) w71)))
 (R (.returned (.bool false)) w69))))))))))
theorem law12_TablePins.vc {a0 a1 a2 w} {R : Ending → World → Prop} (h : law12_TablePins.pre a0 a1 a2 w R) : Calls Tryd.prog n_law12_TablePins #[.int .i64 a0, .slice a1.a a1.n a1.c, .int .i64 a2] w R :=
  calls_of_eq (an := ⟨[(21, ⟨[(12, .int .i64)], [], []⟩), (21, ⟨[(12, .int .i64)], [], []⟩), (13, ⟨[(10, .int .i64)], [], []⟩), (8, ⟨[(9, .int .i64)], [], []⟩)], [], []⟩) (args := [.int .i64 a0, .slice a1.a a1.n a1.c, .int .i64 a2]) Tryd.noNG Tryd.mixed Tryd.func5 h (by kernel_rfl)


end Go.Proofs.YtbnmglonbhdcbaaDoor
