import Derived.Test.YtbnmglonbhdcbaaGreatDoorG
set_option linter.all false
namespace Go.Proofs.YtbnmglonbhdcbaaGreatDoor
open Go Go.Vc Go.RowKit Go.Proofs
set_option maxRecDepth 100000
set_option maxHeartbeats 8000000
set_option linter.unusedVariables false
abbrev n_law13_WorldOpen : FuncId := 9
/- breccia/breccialaw13.WorldOpen  -/
def law13_WorldOpen.pre (a0 : Int) (a1_0 : Int) (a1_1 : Int) (a1_2 : Int) (a2 : Int) (a3 : Int) (w : World) (R : Ending → World → Prop) : Prop :=
 ∀ w0 : World, w0 = w.alloc (.cells #[.int .i64 a1_0, .int .i64 a1_1, .int .i64 a1_2] 26) →
 Calls Tryz.prog 21 #[.agg #[.int .i64 a1_0, .int .i64 a1_1, .int .i64 a1_2]] w0 (fun e w1 => ∃ (x2 : Int) (x3 : Int) (x4 : Int), e = .returned (.agg #[.int .i64 x2, .int .i64 x3, .int .i64 x4]) ∧ w1.heap[w.heap.size]? = w0.heap[w.heap.size]? ∧ 
 ∀ w5 : World, w5 = w1.alloc (.cells #[.int .i64 0, .int .i64 0, .int .i64 0] 26) →
 ∀ w6 : World, w6 = w5.setRow w1.heap.size #[.int .i64 x2, .int .i64 x3, .int .i64 x4] →
 Calls Tryz.prog 29 #[.int .i64 a0, .int .i64 1, .int .i64 0] w6 (fun e w7 => ∃ (p8 : Option Addr), e = .returned (.pointer p8) ∧ w7.heap[w.heap.size]? = w6.heap[w.heap.size]? ∧ w7.heap[w1.heap.size]? = w6.heap[w1.heap.size]? ∧ 
 Br (p8).isNone
 (R (.returned (.bool false)) w7)
 (Calls Tryz.prog 30 #[.pointer p8] w7 (fun e w9 => ∃ (p10 : Option Addr), e = .returned (.pointer p10) ∧ w9.heap[w.heap.size]? = w7.heap[w.heap.size]? ∧ w9.heap[w1.heap.size]? = w7.heap[w1.heap.size]? ∧ 
 Br (p10).isNone
 (R (.returned (.bool false)) w9)
 (Calls Tryz.prog 39 #[.pointer p8, .int .i64 x2, .int .i64 x4] w9 (fun e w11 => ∃ (x12 : Int) (x13 : Int) (x14 : Int) (b15 : Bool), e = .returned (.tuple #[.agg #[.int .i64 x12, .int .i64 x13, .int .i64 x14], .bool b15]) ∧ w11.heap[w.heap.size]? = w9.heap[w.heap.size]? ∧ w11.heap[w1.heap.size]? = w9.heap[w1.heap.size]? ∧ 
 ∀ w16 : World, w16 = w11.alloc (.cells #[.int .i64 0, .int .i64 0, .int .i64 0] 26) →
 ∀ w17 : World, w17 = w16.setRow w11.heap.size #[.int .i64 x12, .int .i64 x13, .int .i64 x14] →
 Br b15
 (R (.returned (.bool false)) w17)
 (Br (!(((x12 : Int) == 0) && (((x13 : Int) == 0) && ((x14 : Int) == 0))))
 (R (.returned (.bool false)) w17)
 (Calls Tryz.prog 40 #[.pointer p8, .int .i64 x2, .int .i64 x4] w17 (fun e w18 => ∃ (x19 : Int), e = .returned (.int .i64 x19) ∧ w18.heap[w.heap.size]? = w17.heap[w.heap.size]? ∧ w18.heap[w1.heap.size]? = w17.heap[w1.heap.size]? ∧ w18.heap[w11.heap.size]? = w17.heap[w11.heap.size]? ∧ 
 Br ((x19 : Int) != (-2))
 (R (.returned (.bool false)) w18)
 (Calls Tryz.prog 41 #[.pointer p8, .agg #[.int .i64 x2, .int .i64 x3, .int .i64 x4]] w18 (fun e w20 => ∃ (b21 : Bool), e = .returned (.bool b21) ∧ w20.heap[w.heap.size]? = w18.heap[w.heap.size]? ∧ w20.heap[w1.heap.size]? = w18.heap[w1.heap.size]? ∧ w20.heap[w11.heap.size]? = w18.heap[w11.heap.size]? ∧ 
 Br b21
 (R (.returned (.bool false)) w20)
 (Calls Tryz.prog 42 #[.agg #[.int .i64 x2, .int .i64 x3, .int .i64 x4]] w20 (fun e w22 => ∃ (x23 : Int) (x24 : Int), e = .returned (.agg #[.int .i64 x23, .int .i64 x24]) ∧ w22.heap[w.heap.size]? = w20.heap[w.heap.size]? ∧ w22.heap[w1.heap.size]? = w20.heap[w1.heap.size]? ∧ w22.heap[w11.heap.size]? = w20.heap[w11.heap.size]? ∧ 
 Calls Tryz.prog 24 #[.pointer p10, .agg #[.int .i64 x23, .int .i64 x24]] w22 (fun e w25 => ∃ (x26 : Int), e = .returned (.int .i64 x26) ∧ w25.heap[w.heap.size]? = w22.heap[w.heap.size]? ∧ w25.heap[w1.heap.size]? = w22.heap[w1.heap.size]? ∧ w25.heap[w11.heap.size]? = w22.heap[w11.heap.size]? ∧ 
 Calls Tryz.prog 15 #[.int .i64 a3, .int .i64 32] w25 (fun e w27 => ∃ (x28 : Int), e = .returned (.int .i64 x28) ∧ w27.heap[w.heap.size]? = w25.heap[w.heap.size]? ∧ w27.heap[w1.heap.size]? = w25.heap[w1.heap.size]? ∧ w27.heap[w11.heap.size]? = w25.heap[w11.heap.size]? ∧ 
 ∃ J29 : World → Prop,
 ((Calls Tryz.prog 22 #[.int .i64 a2] w27.drew (fun e w30 => ∃ (x31 : Int), e = .returned (.int .i64 x31) ∧ w30.heap[w.heap.size]? = w27.drew.heap[w.heap.size]? ∧ w30.heap[w1.heap.size]? = w27.drew.heap[w1.heap.size]? ∧ w30.heap[w11.heap.size]? = w27.drew.heap[w11.heap.size]? ∧ 
 Calls Tryz.prog 31 #[.pointer p8, .agg #[.int .i64 x2, .int .i64 x28, .int .i64 x4], .int .i64 x31] w30 (fun e w32 => ∃ (x33 : Int), e = .returned (.int .i64 x33) ∧ w32.heap[w.heap.size]? = w30.heap[w.heap.size]? ∧ w32.heap[w1.heap.size]? = w30.heap[w1.heap.size]? ∧ w32.heap[w11.heap.size]? = w30.heap[w11.heap.size]? ∧ 
 ([.int .i64 a1_0, .int .i64 a1_1, .int .i64 a1_2] : List Value) = [.int .i64 a1_0, .int .i64 a1_1, .int .i64 a1_2] ∧ ([.int .i64 x2, .int .i64 x3, .int .i64 x4] : List Value) = [.int .i64 x2, .int .i64 x3, .int .i64 x4] ∧ ([.int .i64 x12, .int .i64 x13, .int .i64 x14] : List Value) = [.int .i64 x12, .int .i64 x13, .int .i64 x14] ∧ J29  w32))) ∧ (Calls Tryz.prog 22 #[.int .i64 a2] w27.drew (fun e w34 => ∃ (x35 : Int), e = .returned (.int .i64 x35) ∧ w34.heap[w.heap.size]? = w27.drew.heap[w.heap.size]? ∧ w34.heap[w1.heap.size]? = w27.drew.heap[w1.heap.size]? ∧ w34.heap[w11.heap.size]? = w27.drew.heap[w11.heap.size]? ∧ 
 LoadL w34 (some ⟨w1.heap.size, 2, none⟩) 0 [.int .i64 x4] ∧ LoadL w34 (some ⟨w1.heap.size, 0, none⟩) 0 [.int .i64 x2] ∧ Calls Tryz.prog 31 #[.pointer p8, .agg #[.int .i64 x2, .int .i64 x28, .int .i64 x4], .int .i64 x35] w34 (fun e w36 => ∃ (x37 : Int), e = .returned (.int .i64 x37) ∧ w36.heap[w.heap.size]? = w34.heap[w.heap.size]? ∧ w36.heap[w1.heap.size]? = w34.heap[w1.heap.size]? ∧ w36.heap[w11.heap.size]? = w34.heap[w11.heap.size]? ∧ 
 ([.int .i64 a1_0, .int .i64 a1_1, .int .i64 a1_2] : List Value) = [.int .i64 a1_0, .int .i64 a1_1, .int .i64 a1_2] ∧ ([.int .i64 x2, .int .i64 x3, .int .i64 x4] : List Value) = [.int .i64 x2, .int .i64 x3, .int .i64 x4] ∧ ([.int .i64 x12, .int .i64 x13, .int .i64 x14] : List Value) = [.int .i64 x12, .int .i64 x13, .int .i64 x14] ∧ J29  w36)))) ∧
 ∀ us38 : Nat → Value, ∀ (w39 : World), J29 w39 →
 Calls Tryz.prog 40 #[.pointer p8, .int .i64 x2, .int .i64 x4] w39 (fun e w40 => ∃ (x41 : Int), e = .returned (.int .i64 x41) ∧ w40.heap[w.heap.size]? = w39.heap[w.heap.size]? ∧ w40.heap[w1.heap.size]? = w39.heap[w1.heap.size]? ∧ w40.heap[w11.heap.size]? = w39.heap[w11.heap.size]? ∧ 
 Calls Tryz.prog 39 #[.pointer p8, .int .i64 x2, .int .i64 x4] w40 (fun e w42 => ∃ (x43 : Int) (x44 : Int) (x45 : Int) (b46 : Bool), e = .returned (.tuple #[.agg #[.int .i64 x43, .int .i64 x44, .int .i64 x45], .bool b46]) ∧ w42.heap[w.heap.size]? = w40.heap[w.heap.size]? ∧ w42.heap[w1.heap.size]? = w40.heap[w1.heap.size]? ∧ w42.heap[w11.heap.size]? = w40.heap[w11.heap.size]? ∧ 
 ∀ w47 : World, w47 = w42.alloc (.cells #[.int .i64 0, .int .i64 0, .int .i64 0] 26) →
 ∀ w48 : World, w48 = w47.setRow w42.heap.size #[.int .i64 x43, .int .i64 x44, .int .i64 x45] →
 Br (!(b46 == (decide ((x41 : Int) < 31))))
 (R (.returned (.bool false)) w48)
 (Br (!b46)
 (Calls Tryz.prog 19 #[] w48 (fun e w49 => ∃ (b50 : Bool), e = .returned (.bool b50) ∧ w49.heap[w.heap.size]? = w48.heap[w.heap.size]? ∧ w49.heap[w1.heap.size]? = w48.heap[w1.heap.size]? ∧ w49.heap[w11.heap.size]? = w48.heap[w11.heap.size]? ∧ w49.heap[w42.heap.size]? = w48.heap[w42.heap.size]? ∧ 
 R (.returned (.bool b50)) w49))
 (Br ((x43 : Int) == x2)
 (Br ((x44 : Int) == (IntKind.wrap .i64 (x41 + 1)))
 (Br ((x45 : Int) == x4)
 (Calls Tryz.prog 27 #[.pointer p10, .agg #[.int .i64 x43, .int .i64 x44, .int .i64 x45]] w48 (fun e w51 => ∃ (x52 : Int), e = .returned (.int .i64 x52) ∧ w51.heap[w.heap.size]? = w48.heap[w.heap.size]? ∧ w51.heap[w1.heap.size]? = w48.heap[w1.heap.size]? ∧ w51.heap[w11.heap.size]? = w48.heap[w11.heap.size]? ∧ w51.heap[w42.heap.size]? = w48.heap[w42.heap.size]? ∧ 
 Br ((x52 : Int) == 0)
 (Calls Tryz.prog 19 #[] w51 (fun e w53 => ∃ (b54 : Bool), e = .returned (.bool b54) ∧ w53.heap[w.heap.size]? = w51.heap[w.heap.size]? ∧ w53.heap[w1.heap.size]? = w51.heap[w1.heap.size]? ∧ w53.heap[w11.heap.size]? = w51.heap[w11.heap.size]? ∧ w53.heap[w42.heap.size]? = w51.heap[w42.heap.size]? ∧ 
 R (.returned (.bool b54)) w53))
 (R (.returned (.bool false)) w51)))
 (R (.returned (.bool false)) w48))
 (R (.returned (.bool false)) w48))
 (R (.returned (.bool false)) w48))))))))))))))))))))
theorem law13_WorldOpen.vc {a0 a1_0 a1_1 a1_2 a2 a3 w} {R : Ending → World → Prop} (h : law13_WorldOpen.pre a0 a1_0 a1_1 a1_2 a2 a3 w R) : Calls Tryz.prog n_law13_WorldOpen #[.int .i64 a0, .agg #[.int .i64 a1_0, .int .i64 a1_1, .int .i64 a1_2], .int .i64 a2, .int .i64 a3] w R :=
  calls_of_eq (an := ⟨[], [(14, ⟨[], [], []⟩)], []⟩) (args := [.int .i64 a0, .agg #[.int .i64 a1_0, .int .i64 a1_1, .int .i64 a1_2], .int .i64 a2, .int .i64 a3]) Tryz.noNG Tryz.mixed Tryz.func9 h (by kernel_rfl)


end Go.Proofs.YtbnmglonbhdcbaaGreatDoor
