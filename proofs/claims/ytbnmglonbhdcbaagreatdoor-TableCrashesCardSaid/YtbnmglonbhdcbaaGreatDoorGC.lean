import Derived.Test.YtbnmglonbhdcbaaGreatDoorGD
set_option linter.all false
namespace Go.Proofs.YtbnmglonbhdcbaaGreatDoor
open Go Go.Vc Go.RowKit Go.Proofs
set_option maxRecDepth 100000
set_option maxHeartbeats 8000000
set_option linter.unusedVariables false
abbrev n_law12_TableCrashes : FuncId := 8
/- breccia/breccialaw12.TableCrashes  -/
def law12_TableCrashes.pre (a0 : Int) (a1_0 : Int) (a1_1 : Int) (a1_2 : Int) (a2 : Int) (a3 : Int) (a4 : Int) (w : World) (R : Ending → World → Prop) : Prop :=
 ∀ w0 : World, w0 = w.alloc (.cells #[.int .i64 a1_0, .int .i64 a1_1, .int .i64 a1_2] 26) →
 Calls Tryz.prog 21 #[.agg #[.int .i64 a1_0, .int .i64 a1_1, .int .i64 a1_2]] w0 (fun e w1 => ∃ (x2 : Int) (x3 : Int) (x4 : Int), e = .returned (.agg #[.int .i64 x2, .int .i64 x3, .int .i64 x4]) ∧ w1.heap[w.heap.size]? = w0.heap[w.heap.size]? ∧ 
 ∀ w5 : World, w5 = w1.setRow w.heap.size #[.int .i64 x2, .int .i64 x3, .int .i64 x4] →
 Calls Tryz.prog 15 #[.int .i64 x3, .int .i64 32] w5 (fun e w6 => ∃ (x7 : Int), e = .returned (.int .i64 x7) ∧ w6.heap[w.heap.size]? = w5.heap[w.heap.size]? ∧ 
 ∀ w8 : World, w8 = w6.setRow w.heap.size #[.int .i64 x2, .int .i64 x7, .int .i64 x4] →
 Calls Tryz.prog 22 #[.int .i64 a2] w8 (fun e w9 => ∃ (x10 : Int), e = .returned (.int .i64 x10) ∧ w9.heap[w.heap.size]? = w8.heap[w.heap.size]? ∧ 
 Calls Tryz.prog 22 #[.int .i64 a3] w9 (fun e w11 => ∃ (x12 : Int), e = .returned (.int .i64 x12) ∧ w11.heap[w.heap.size]? = w9.heap[w.heap.size]? ∧ 
 ∃ J13 : Option Addr → World → Prop,
 ((Calls Tryz.prog 23 #[.int .i64 x2] w11.drew (fun e w14 => ∃ (x15 : Int), e = .returned (.int .i64 x15) ∧ w14.heap[w.heap.size]? = w11.drew.heap[w.heap.size]? ∧ 
 LoadL w14 (some ⟨w.heap.size, 2, none⟩) 0 [.int .i64 x4] ∧ (Calls Tryz.prog 23 #[.int .i64 x4] w14 (fun e w16 => ∃ (x17 : Int), e = .returned (.int .i64 x17) ∧ w16.heap[w.heap.size]? = w14.heap[w.heap.size]? ∧ 
 (∀ w18 : World, w18 = w16.alloc (.cells #[.int .i64 0, .int .i64 0] 42) →
 ∀ w19 : World, w19 = w18.setRow w16.heap.size #[.int .i64 x15, .int .i64 x17] →
 ([.int .i64 x2, .int .i64 x7, .int .i64 x4] : List Value) = [.int .i64 x2, .int .i64 x7, .int .i64 x4] ∧ J13 (some ⟨w16.heap.size, 0, none⟩) w19) ∧ (∀ w20 : World, w20 = w16.alloc (.cells #[.int .i64 0, .int .i64 0] 42) →
 ∀ w21 : World, w21 = w20.setRow w16.heap.size #[.int .i64 x15, .int .i64 x17] →
 ([.int .i64 x2, .int .i64 x7, .int .i64 x4] : List Value) = [.int .i64 x2, .int .i64 x7, .int .i64 x4] ∧ J13 (some ⟨w16.heap.size, 0, none⟩) w21))) ∧ (∀ w22 : World, w22 = w14.alloc (.cells #[.int .i64 0, .int .i64 0] 42) →
 Calls Tryz.prog 23 #[.int .i64 x4] w22 (fun e w23 => ∃ (x24 : Int), e = .returned (.int .i64 x24) ∧ w23.heap[w.heap.size]? = w22.heap[w.heap.size]? ∧ w23.heap[w14.heap.size]? = w22.heap[w14.heap.size]? ∧ 
 ∀ w25 : World, w25 = w23.setRow w14.heap.size #[.int .i64 x15, .int .i64 x24] →
 ([.int .i64 x2, .int .i64 x7, .int .i64 x4] : List Value) = [.int .i64 x2, .int .i64 x7, .int .i64 x4] ∧ J13 (some ⟨w14.heap.size, 0, none⟩) w25)))) ∧ (∀ w26 : World, w26 = w11.drew.alloc (.cells #[.int .i64 0, .int .i64 0] 42) →
 Calls Tryz.prog 23 #[.int .i64 x2] w26 (fun e w27 => ∃ (x28 : Int), e = .returned (.int .i64 x28) ∧ w27.heap[w.heap.size]? = w26.heap[w.heap.size]? ∧ w27.heap[w11.drew.heap.size]? = w26.heap[w11.drew.heap.size]? ∧ 
 LoadL w27 (some ⟨w.heap.size, 2, none⟩) 0 [.int .i64 x4] ∧ Calls Tryz.prog 23 #[.int .i64 x4] w27 (fun e w29 => ∃ (x30 : Int), e = .returned (.int .i64 x30) ∧ w29.heap[w.heap.size]? = w27.heap[w.heap.size]? ∧ w29.heap[w11.drew.heap.size]? = w27.heap[w11.drew.heap.size]? ∧ 
 ∀ w31 : World, w31 = w29.setRow w11.drew.heap.size #[.int .i64 x28, .int .i64 x30] →
 ([.int .i64 x2, .int .i64 x7, .int .i64 x4] : List Value) = [.int .i64 x2, .int .i64 x7, .int .i64 x4] ∧ J13 (some ⟨w11.drew.heap.size, 0, none⟩) w31)))) ∧
 ∀ us32 : Nat → Value, ∀ (p33 : Option Addr) (w34 : World), J13 p33 w34 →
 Calls Tryz.prog 20 #[.int .i64 a0, .int .i64 2, .int .i64 100000] w34 (fun e w35 => ∃ (p36 : Option Addr), e = .returned (.pointer p36) ∧ w35.heap[w.heap.size]? = w34.heap[w.heap.size]? ∧ 
 Br (p36).isNone
 (R (.returned (.bool false)) w35)
 (∃ (x37 : Int) (x38 : Int), LoadL w35 p33 0 [.int .i64 x37, .int .i64 x38] ∧
 Calls Tryz.prog 24 #[.pointer p36, .agg #[.int .i64 x37, .int .i64 x38]] w35 (fun e w39 => ∃ (x40 : Int), e = .returned (.int .i64 x40) ∧ w39.heap[w.heap.size]? = w35.heap[w.heap.size]? ∧ 
 Calls Tryz.prog 27 #[.pointer p36, .agg #[.int .i64 x2, .int .i64 x7, .int .i64 x4]] w39 (fun e w41 => ∃ (x42 : Int), e = .returned (.int .i64 x42) ∧ w41.heap[w.heap.size]? = w39.heap[w.heap.size]? ∧ 
 Calls Tryz.prog 25 #[.pointer p36, .agg #[.int .i64 x2, .int .i64 x7, .int .i64 x4], .int .i64 x10] w41 (fun e w43 => ∃ (x44 : Int), e = .returned (.int .i64 x44) ∧ w43.heap[w.heap.size]? = w41.heap[w.heap.size]? ∧ 
 Calls Tryz.prog 37 #[.pointer p36, .int .i64 0] w43 (fun e w45 => ∃ (x46 : Int), e = .returned (.int .i64 x46) ∧ w45.heap[w.heap.size]? = w43.heap[w.heap.size]? ∧ 
 ∃ (x47 : Int) (x48 : Int), LoadL w45 p33 0 [.int .i64 x47, .int .i64 x48] ∧
 Calls Tryz.prog 24 #[.pointer p36, .agg #[.int .i64 x47, .int .i64 x48]] w45 (fun e w49 => ∃ (x50 : Int), e = .returned (.int .i64 x50) ∧ w49.heap[w.heap.size]? = w45.heap[w.heap.size]? ∧ 
 Calls Tryz.prog 27 #[.pointer p36, .agg #[.int .i64 x2, .int .i64 x7, .int .i64 x4]] w49 (fun e w51 => ∃ (x52 : Int), e = .returned (.int .i64 x52) ∧ w51.heap[w.heap.size]? = w49.heap[w.heap.size]? ∧ 
 Br ((x52 : Int) != x42)
 (R (.returned (.bool false)) w51)
 (Calls Tryz.prog 25 #[.pointer p36, .agg #[.int .i64 x2, .int .i64 x7, .int .i64 x4], .int .i64 x10] w51 (fun e w53 => ∃ (x54 : Int), e = .returned (.int .i64 x54) ∧ w53.heap[w.heap.size]? = w51.heap[w.heap.size]? ∧ 
 ∃ (x55 : Int) (x56 : Int), LoadL w53 p33 0 [.int .i64 x55, .int .i64 x56] ∧
 Calls Tryz.prog 35 #[.pointer p36, .agg #[.int .i64 x55, .int .i64 x56]] w53 (fun e w57 => ∃ (x58 : Int), e = .returned (.int .i64 x58) ∧ w57.heap[w.heap.size]? = w53.heap[w.heap.size]? ∧ 
 Br ((x58 : Int) != 0)
 (R (.returned (.bool false)) w57)
 (∃ (x59 : Int) (x60 : Int), LoadL w57 p33 0 [.int .i64 x59, .int .i64 x60] ∧
 Calls Tryz.prog 34 #[.pointer p36, .agg #[.int .i64 x59, .int .i64 x60]] w57 (fun e w61 => ∃ (b62 : Bool), e = .returned (.bool b62) ∧ w61.heap[w.heap.size]? = w57.heap[w.heap.size]? ∧ 
 Br b62
 (R (.returned (.bool false)) w61)
 (Calls Tryz.prog 25 #[.pointer p36, .agg #[.int .i64 x2, .int .i64 x7, .int .i64 x4], .int .i64 x12] w61 (fun e w63 => ∃ (x64 : Int), e = .returned (.int .i64 x64) ∧ w63.heap[w.heap.size]? = w61.heap[w.heap.size]? ∧ 
 Calls Tryz.prog 37 #[.pointer p36, .int .i64 a4] w63 (fun e w65 => ∃ (x66 : Int), e = .returned (.int .i64 x66) ∧ w65.heap[w.heap.size]? = w63.heap[w.heap.size]? ∧ 
 ∃ (x67 : Int) (x68 : Int), LoadL w65 p33 0 [.int .i64 x67, .int .i64 x68] ∧
 Calls Tryz.prog 24 #[.pointer p36, .agg #[.int .i64 x67, .int .i64 x68]] w65 (fun e w69 => ∃ (x70 : Int), e = .returned (.int .i64 x70) ∧ w69.heap[w.heap.size]? = w65.heap[w.heap.size]? ∧ 
 Calls Tryz.prog 27 #[.pointer p36, .agg #[.int .i64 x2, .int .i64 x7, .int .i64 x4]] w69 (fun e w71 => ∃ (x72 : Int), e = .returned (.int .i64 x72) ∧ w71.heap[w.heap.size]? = w69.heap[w.heap.size]? ∧ 
 Br ((x72 : Int) != x10)
 (R (.returned (.bool false)) w71)
 (Calls Tryz.prog 25 #[.pointer p36, .agg #[.int .i64 x2, .int .i64 x7, .int .i64 x4], .int .i64 x12] w71 (fun e w73 => ∃ (x74 : Int), e = .returned (.int .i64 x74) ∧ w73.heap[w.heap.size]? = w71.heap[w.heap.size]? ∧ 
 AndL (nnC p36) (AndL (nnC p36) (∃ (p75 : Option Addr), ld w73 (padd p36 0) = some (.pointer p75) ∧
 AndL (nnC p75) (AndL (nnC p75) (AndL (nnC (padd p75 0)) (∃ (p76 : Option Addr), ld w73 (padd (padd p75 0) 0) = some (.pointer p76) ∧
 Calls Tryz.prog 38 #[.pointer p76, .int .i64 1] w73 (fun e w77 => e = .returned (.tuple #[]) ∧ w77.heap[w.heap.size]? = w73.heap[w.heap.size]? ∧ 
 ∃ (x78 : Int) (x79 : Int), LoadL w77 p33 0 [.int .i64 x78, .int .i64 x79] ∧
 Calls Tryz.prog 35 #[.pointer p36, .agg #[.int .i64 x78, .int .i64 x79]] w77 (fun e w80 => ∃ (x81 : Int), e = .returned (.int .i64 x81) ∧ w80.heap[w.heap.size]? = w77.heap[w.heap.size]? ∧ 
 Br (!(((x81 : Int) == 9) == ((x10 : Int) != x12)))
 (R (.returned (.bool false)) w80)
 (∃ (x82 : Int) (x83 : Int), LoadL w80 p33 0 [.int .i64 x82, .int .i64 x83] ∧
 Calls Tryz.prog 34 #[.pointer p36, .agg #[.int .i64 x82, .int .i64 x83]] w80 (fun e w84 => ∃ (b85 : Bool), e = .returned (.bool b85) ∧ w84.heap[w.heap.size]? = w80.heap[w.heap.size]? ∧ 
 Br (!(b85 == ((x10 : Int) != x12)))
 (R (.returned (.bool false)) w84)
 (Calls Tryz.prog 27 #[.pointer p36, .agg #[.int .i64 x2, .int .i64 x7, .int .i64 x4]] w84 (fun e w86 => ∃ (x87 : Int), e = .returned (.int .i64 x87) ∧ w86.heap[w.heap.size]? = w84.heap[w.heap.size]? ∧ 
 Br ((x87 : Int) != x12)
 (R (.returned (.bool false)) w86)
 (Calls Tryz.prog 37 #[.pointer p36, .int .i64 a4] w86 (fun e w88 => ∃ (x89 : Int), e = .returned (.int .i64 x89) ∧ w88.heap[w.heap.size]? = w86.heap[w.heap.size]? ∧ 
 ∃ (x90 : Int) (x91 : Int), LoadL w88 p33 0 [.int .i64 x90, .int .i64 x91] ∧
 Calls Tryz.prog 24 #[.pointer p36, .agg #[.int .i64 x90, .int .i64 x91]] w88 (fun e w92 => ∃ (x93 : Int), e = .returned (.int .i64 x93) ∧ w92.heap[w.heap.size]? = w88.heap[w.heap.size]? ∧ 
 Calls Tryz.prog 27 #[.pointer p36, .agg #[.int .i64 x2, .int .i64 x7, .int .i64 x4]] w92 (fun e w94 => ∃ (x95 : Int), e = .returned (.int .i64 x95) ∧ w94.heap[w.heap.size]? = w92.heap[w.heap.size]? ∧ 
 Br ((x95 : Int) == x10)
 (Calls Tryz.prog 28 #[] w94 (fun e w96 => ∃ (b97 : Bool), e = .returned (.bool b97) ∧ w96.heap[w.heap.size]? = w94.heap[w.heap.size]? ∧ 
 R (.returned (.bool b97)) w96))
 (R (.returned (.bool false)) w94))))))))))))))))))))))))))))))))))))))))
theorem law12_TableCrashes.vc {a0 a1_0 a1_1 a1_2 a2 a3 a4 w} {R : Ending → World → Prop} (h : law12_TableCrashes.pre a0 a1_0 a1_1 a1_2 a2 a3 a4 w R) : Calls Tryz.prog n_law12_TableCrashes #[.int .i64 a0, .agg #[.int .i64 a1_0, .int .i64 a1_1, .int .i64 a1_2], .int .i64 a2, .int .i64 a3, .int .i64 a4] w R :=
  calls_of_eq (an := ⟨[], [(6, ⟨[(11, .ptr)], [], []⟩)], []⟩) (args := [.int .i64 a0, .agg #[.int .i64 a1_0, .int .i64 a1_1, .int .i64 a1_2], .int .i64 a2, .int .i64 a3, .int .i64 a4]) Tryz.noNG Tryz.mixed Tryz.func8 h (by kernel_rfl)


end Go.Proofs.YtbnmglonbhdcbaaGreatDoor
