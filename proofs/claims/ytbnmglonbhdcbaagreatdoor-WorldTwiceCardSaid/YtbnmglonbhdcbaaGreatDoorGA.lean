import Derived.Test.YtbnmglonbhdcbaaGreatDoorG
set_option linter.all false
namespace Go.Proofs.YtbnmglonbhdcbaaGreatDoor
open Go Go.Vc Go.RowKit Go.Proofs
set_option maxRecDepth 100000
set_option maxHeartbeats 8000000
set_option linter.unusedVariables false
abbrev n_law13_WorldTwice : FuncId := 5
/- breccia/breccialaw13.WorldTwice  -/
def law13_WorldTwice.pre (a0 : Int) (a1_0 : Int) (a1_1 : Int) (a1_2 : Int) (a2_0 : Int) (a2_1 : Int) (a2_2 : Int) (a3 : Int) (a4 : Int) (w : World) (R : Ending → World → Prop) : Prop :=
 ∀ w0 : World, w0 = w.alloc (.cells #[.int .i64 a1_0, .int .i64 a1_1, .int .i64 a1_2] 26) →
 ∀ w1 : World, w1 = w0.alloc (.cells #[.int .i64 a2_0, .int .i64 a2_1, .int .i64 a2_2] 26) →
 Calls Tryz.prog 29 #[.int .i64 a0, .int .i64 1, .int .i64 0] w1 (fun e w2 => ∃ (p3 : Option Addr), e = .returned (.pointer p3) ∧ w2.heap[w.heap.size]? = w1.heap[w.heap.size]? ∧ w2.heap[w0.heap.size]? = w1.heap[w0.heap.size]? ∧ 
 Br (p3).isNone
 (R (.returned (.bool false)) w2)
 (Calls Tryz.prog 30 #[.pointer p3] w2 (fun e w4 => ∃ (p5 : Option Addr), e = .returned (.pointer p5) ∧ w4.heap[w.heap.size]? = w2.heap[w.heap.size]? ∧ w4.heap[w0.heap.size]? = w2.heap[w0.heap.size]? ∧ 
 Br (p5).isNone
 (R (.returned (.bool false)) w4)
 (Calls Tryz.prog 24 #[.pointer p5, .agg #[.int .i64 0, .int .i64 0]] w4 (fun e w6 => ∃ (x7 : Int), e = .returned (.int .i64 x7) ∧ w6.heap[w.heap.size]? = w4.heap[w.heap.size]? ∧ w6.heap[w0.heap.size]? = w4.heap[w0.heap.size]? ∧ 
 ∃ J8 : Option Addr → World → Prop,
 ((Calls Tryz.prog 15 #[.int .i64 a1_0, .int .i64 16] w6.drew (fun e w9 => ∃ (x10 : Int), e = .returned (.int .i64 x10) ∧ w9.heap[w.heap.size]? = w6.drew.heap[w.heap.size]? ∧ w9.heap[w0.heap.size]? = w6.drew.heap[w0.heap.size]? ∧ 
 LoadL w9 (some ⟨w.heap.size, 2, none⟩) 0 [.int .i64 a1_2] ∧ LoadL w9 (some ⟨w.heap.size, 1, none⟩) 0 [.int .i64 a1_1] ∧ (Calls Tryz.prog 15 #[.int .i64 a1_1, .int .i64 32] w9 (fun e w11 => ∃ (x12 : Int), e = .returned (.int .i64 x12) ∧ w11.heap[w.heap.size]? = w9.heap[w.heap.size]? ∧ w11.heap[w0.heap.size]? = w9.heap[w0.heap.size]? ∧ 
 LoadL w11 (some ⟨w.heap.size, 2, none⟩) 0 [.int .i64 a1_2] ∧ (Calls Tryz.prog 15 #[.int .i64 a1_2, .int .i64 16] w11 (fun e w13 => ∃ (x14 : Int), e = .returned (.int .i64 x14) ∧ w13.heap[w.heap.size]? = w11.heap[w.heap.size]? ∧ w13.heap[w0.heap.size]? = w11.heap[w0.heap.size]? ∧ 
 (∀ w15 : World, w15 = w13.alloc (.cells #[.int .i64 0, .int .i64 0, .int .i64 0] 26) →
 ∀ w16 : World, w16 = w15.setRow w13.heap.size #[.int .i64 x10, .int .i64 x12, .int .i64 x14] →
 ([.int .i64 a1_0, .int .i64 a1_1, .int .i64 a1_2] : List Value) = [.int .i64 a1_0, .int .i64 a1_1, .int .i64 a1_2] ∧ ([.int .i64 a2_0, .int .i64 a2_1, .int .i64 a2_2] : List Value) = [.int .i64 a2_0, .int .i64 a2_1, .int .i64 a2_2] ∧ J8 (some ⟨w13.heap.size, 0, none⟩) w16) ∧ (∀ w17 : World, w17 = w13.alloc (.cells #[.int .i64 0, .int .i64 0, .int .i64 0] 26) →
 ∀ w18 : World, w18 = w17.setRow w13.heap.size #[.int .i64 x10, .int .i64 x12, .int .i64 x14] →
 ([.int .i64 a1_0, .int .i64 a1_1, .int .i64 a1_2] : List Value) = [.int .i64 a1_0, .int .i64 a1_1, .int .i64 a1_2] ∧ ([.int .i64 a2_0, .int .i64 a2_1, .int .i64 a2_2] : List Value) = [.int .i64 a2_0, .int .i64 a2_1, .int .i64 a2_2] ∧ J8 (some ⟨w13.heap.size, 0, none⟩) w18))) ∧ (∀ w19 : World, w19 = w11.alloc (.cells #[.int .i64 0, .int .i64 0, .int .i64 0] 26) →
 Calls Tryz.prog 15 #[.int .i64 a1_2, .int .i64 16] w19 (fun e w20 => ∃ (x21 : Int), e = .returned (.int .i64 x21) ∧ w20.heap[w.heap.size]? = w19.heap[w.heap.size]? ∧ w20.heap[w0.heap.size]? = w19.heap[w0.heap.size]? ∧ w20.heap[w11.heap.size]? = w19.heap[w11.heap.size]? ∧ 
 ∀ w22 : World, w22 = w20.setRow w11.heap.size #[.int .i64 x10, .int .i64 x12, .int .i64 x21] →
 ([.int .i64 a1_0, .int .i64 a1_1, .int .i64 a1_2] : List Value) = [.int .i64 a1_0, .int .i64 a1_1, .int .i64 a1_2] ∧ ([.int .i64 a2_0, .int .i64 a2_1, .int .i64 a2_2] : List Value) = [.int .i64 a2_0, .int .i64 a2_1, .int .i64 a2_2] ∧ J8 (some ⟨w11.heap.size, 0, none⟩) w22)))) ∧ (∀ w23 : World, w23 = w9.alloc (.cells #[.int .i64 0, .int .i64 0, .int .i64 0] 26) →
 Calls Tryz.prog 15 #[.int .i64 a1_1, .int .i64 32] w23 (fun e w24 => ∃ (x25 : Int), e = .returned (.int .i64 x25) ∧ w24.heap[w.heap.size]? = w23.heap[w.heap.size]? ∧ w24.heap[w0.heap.size]? = w23.heap[w0.heap.size]? ∧ w24.heap[w9.heap.size]? = w23.heap[w9.heap.size]? ∧ 
 LoadL w24 (some ⟨w.heap.size, 2, none⟩) 0 [.int .i64 a1_2] ∧ Calls Tryz.prog 15 #[.int .i64 a1_2, .int .i64 16] w24 (fun e w26 => ∃ (x27 : Int), e = .returned (.int .i64 x27) ∧ w26.heap[w.heap.size]? = w24.heap[w.heap.size]? ∧ w26.heap[w0.heap.size]? = w24.heap[w0.heap.size]? ∧ w26.heap[w9.heap.size]? = w24.heap[w9.heap.size]? ∧ 
 ∀ w28 : World, w28 = w26.setRow w9.heap.size #[.int .i64 x10, .int .i64 x25, .int .i64 x27] →
 ([.int .i64 a1_0, .int .i64 a1_1, .int .i64 a1_2] : List Value) = [.int .i64 a1_0, .int .i64 a1_1, .int .i64 a1_2] ∧ ([.int .i64 a2_0, .int .i64 a2_1, .int .i64 a2_2] : List Value) = [.int .i64 a2_0, .int .i64 a2_1, .int .i64 a2_2] ∧ J8 (some ⟨w9.heap.size, 0, none⟩) w28))))) ∧ (∀ w29 : World, w29 = w6.drew.alloc (.cells #[.int .i64 0, .int .i64 0, .int .i64 0] 26) →
 Calls Tryz.prog 15 #[.int .i64 a1_0, .int .i64 16] w29 (fun e w30 => ∃ (x31 : Int), e = .returned (.int .i64 x31) ∧ w30.heap[w.heap.size]? = w29.heap[w.heap.size]? ∧ w30.heap[w0.heap.size]? = w29.heap[w0.heap.size]? ∧ w30.heap[w6.drew.heap.size]? = w29.heap[w6.drew.heap.size]? ∧ 
 LoadL w30 (some ⟨w.heap.size, 2, none⟩) 0 [.int .i64 a1_2] ∧ LoadL w30 (some ⟨w.heap.size, 1, none⟩) 0 [.int .i64 a1_1] ∧ Calls Tryz.prog 15 #[.int .i64 a1_1, .int .i64 32] w30 (fun e w32 => ∃ (x33 : Int), e = .returned (.int .i64 x33) ∧ w32.heap[w.heap.size]? = w30.heap[w.heap.size]? ∧ w32.heap[w0.heap.size]? = w30.heap[w0.heap.size]? ∧ w32.heap[w6.drew.heap.size]? = w30.heap[w6.drew.heap.size]? ∧ 
 LoadL w32 (some ⟨w.heap.size, 2, none⟩) 0 [.int .i64 a1_2] ∧ Calls Tryz.prog 15 #[.int .i64 a1_2, .int .i64 16] w32 (fun e w34 => ∃ (x35 : Int), e = .returned (.int .i64 x35) ∧ w34.heap[w.heap.size]? = w32.heap[w.heap.size]? ∧ w34.heap[w0.heap.size]? = w32.heap[w0.heap.size]? ∧ w34.heap[w6.drew.heap.size]? = w32.heap[w6.drew.heap.size]? ∧ 
 ∀ w36 : World, w36 = w34.setRow w6.drew.heap.size #[.int .i64 x31, .int .i64 x33, .int .i64 x35] →
 ([.int .i64 a1_0, .int .i64 a1_1, .int .i64 a1_2] : List Value) = [.int .i64 a1_0, .int .i64 a1_1, .int .i64 a1_2] ∧ ([.int .i64 a2_0, .int .i64 a2_1, .int .i64 a2_2] : List Value) = [.int .i64 a2_0, .int .i64 a2_1, .int .i64 a2_2] ∧ J8 (some ⟨w6.drew.heap.size, 0, none⟩) w36))))) ∧
 ∀ us37 : Nat → Value, ∀ (p38 : Option Addr) (w39 : World), J8 p38 w39 →
 ∃ J40 : Option Addr → World → Prop,
 ((Calls Tryz.prog 15 #[.int .i64 a2_0, .int .i64 16] w39.drew (fun e w41 => ∃ (x42 : Int), e = .returned (.int .i64 x42) ∧ w41.heap[w.heap.size]? = w39.drew.heap[w.heap.size]? ∧ w41.heap[w0.heap.size]? = w39.drew.heap[w0.heap.size]? ∧ 
 LoadL w41 (some ⟨w0.heap.size, 2, none⟩) 0 [.int .i64 a2_2] ∧ LoadL w41 (some ⟨w0.heap.size, 1, none⟩) 0 [.int .i64 a2_1] ∧ (Calls Tryz.prog 15 #[.int .i64 a2_1, .int .i64 32] w41 (fun e w43 => ∃ (x44 : Int), e = .returned (.int .i64 x44) ∧ w43.heap[w.heap.size]? = w41.heap[w.heap.size]? ∧ w43.heap[w0.heap.size]? = w41.heap[w0.heap.size]? ∧ 
 LoadL w43 (some ⟨w0.heap.size, 2, none⟩) 0 [.int .i64 a2_2] ∧ (Calls Tryz.prog 15 #[.int .i64 a2_2, .int .i64 16] w43 (fun e w45 => ∃ (x46 : Int), e = .returned (.int .i64 x46) ∧ w45.heap[w.heap.size]? = w43.heap[w.heap.size]? ∧ w45.heap[w0.heap.size]? = w43.heap[w0.heap.size]? ∧ 
 (∀ w47 : World, w47 = w45.alloc (.cells #[.int .i64 0, .int .i64 0, .int .i64 0] 26) →
 ∀ w48 : World, w48 = w47.setRow w45.heap.size #[.int .i64 x42, .int .i64 x44, .int .i64 x46] →
 ([.int .i64 a1_0, .int .i64 a1_1, .int .i64 a1_2] : List Value) = [.int .i64 a1_0, .int .i64 a1_1, .int .i64 a1_2] ∧ ([.int .i64 a2_0, .int .i64 a2_1, .int .i64 a2_2] : List Value) = [.int .i64 a2_0, .int .i64 a2_1, .int .i64 a2_2] ∧ J40 (some ⟨w45.heap.size, 0, none⟩) w48) ∧ (∀ w49 : World, w49 = w45.alloc (.cells #[.int .i64 0, .int .i64 0, .int .i64 0] 26) →
 ∀ w50 : World, w50 = w49.setRow w45.heap.size #[.int .i64 x42, .int .i64 x44, .int .i64 x46] →
 ([.int .i64 a1_0, .int .i64 a1_1, .int .i64 a1_2] : List Value) = [.int .i64 a1_0, .int .i64 a1_1, .int .i64 a1_2] ∧ ([.int .i64 a2_0, .int .i64 a2_1, .int .i64 a2_2] : List Value) = [.int .i64 a2_0, .int .i64 a2_1, .int .i64 a2_2] ∧ J40 (some ⟨w45.heap.size, 0, none⟩) w50))) ∧ (∀ w51 : World, w51 = w43.alloc (.cells #[.int .i64 0, .int .i64 0, .int .i64 0] 26) →
 Calls Tryz.prog 15 #[.int .i64 a2_2, .int .i64 16] w51 (fun e w52 => ∃ (x53 : Int), e = .returned (.int .i64 x53) ∧ w52.heap[w.heap.size]? = w51.heap[w.heap.size]? ∧ w52.heap[w0.heap.size]? = w51.heap[w0.heap.size]? ∧ w52.heap[w43.heap.size]? = w51.heap[w43.heap.size]? ∧ 
 ∀ w54 : World, w54 = w52.setRow w43.heap.size #[.int .i64 x42, .int .i64 x44, .int .i64 x53] →
 ([.int .i64 a1_0, .int .i64 a1_1, .int .i64 a1_2] : List Value) = [.int .i64 a1_0, .int .i64 a1_1, .int .i64 a1_2] ∧ ([.int .i64 a2_0, .int .i64 a2_1, .int .i64 a2_2] : List Value) = [.int .i64 a2_0, .int .i64 a2_1, .int .i64 a2_2] ∧ J40 (some ⟨w43.heap.size, 0, none⟩) w54)))) ∧ (∀ w55 : World, w55 = w41.alloc (.cells #[.int .i64 0, .int .i64 0, .int .i64 0] 26) →
 Calls Tryz.prog 15 #[.int .i64 a2_1, .int .i64 32] w55 (fun e w56 => ∃ (x57 : Int), e = .returned (.int .i64 x57) ∧ w56.heap[w.heap.size]? = w55.heap[w.heap.size]? ∧ w56.heap[w0.heap.size]? = w55.heap[w0.heap.size]? ∧ w56.heap[w41.heap.size]? = w55.heap[w41.heap.size]? ∧ 
 LoadL w56 (some ⟨w0.heap.size, 2, none⟩) 0 [.int .i64 a2_2] ∧ Calls Tryz.prog 15 #[.int .i64 a2_2, .int .i64 16] w56 (fun e w58 => ∃ (x59 : Int), e = .returned (.int .i64 x59) ∧ w58.heap[w.heap.size]? = w56.heap[w.heap.size]? ∧ w58.heap[w0.heap.size]? = w56.heap[w0.heap.size]? ∧ w58.heap[w41.heap.size]? = w56.heap[w41.heap.size]? ∧ 
 ∀ w60 : World, w60 = w58.setRow w41.heap.size #[.int .i64 x42, .int .i64 x57, .int .i64 x59] →
 ([.int .i64 a1_0, .int .i64 a1_1, .int .i64 a1_2] : List Value) = [.int .i64 a1_0, .int .i64 a1_1, .int .i64 a1_2] ∧ ([.int .i64 a2_0, .int .i64 a2_1, .int .i64 a2_2] : List Value) = [.int .i64 a2_0, .int .i64 a2_1, .int .i64 a2_2] ∧ J40 (some ⟨w41.heap.size, 0, none⟩) w60))))) ∧ (∀ w61 : World, w61 = w39.drew.alloc (.cells #[.int .i64 0, .int .i64 0, .int .i64 0] 26) →
 Calls Tryz.prog 15 #[.int .i64 a2_0, .int .i64 16] w61 (fun e w62 => ∃ (x63 : Int), e = .returned (.int .i64 x63) ∧ w62.heap[w.heap.size]? = w61.heap[w.heap.size]? ∧ w62.heap[w0.heap.size]? = w61.heap[w0.heap.size]? ∧ w62.heap[w39.drew.heap.size]? = w61.heap[w39.drew.heap.size]? ∧ 
 LoadL w62 (some ⟨w0.heap.size, 2, none⟩) 0 [.int .i64 a2_2] ∧ LoadL w62 (some ⟨w0.heap.size, 1, none⟩) 0 [.int .i64 a2_1] ∧ Calls Tryz.prog 15 #[.int .i64 a2_1, .int .i64 32] w62 (fun e w64 => ∃ (x65 : Int), e = .returned (.int .i64 x65) ∧ w64.heap[w.heap.size]? = w62.heap[w.heap.size]? ∧ w64.heap[w0.heap.size]? = w62.heap[w0.heap.size]? ∧ w64.heap[w39.drew.heap.size]? = w62.heap[w39.drew.heap.size]? ∧ 
 LoadL w64 (some ⟨w0.heap.size, 2, none⟩) 0 [.int .i64 a2_2] ∧ Calls Tryz.prog 15 #[.int .i64 a2_2, .int .i64 16] w64 (fun e w66 => ∃ (x67 : Int), e = .returned (.int .i64 x67) ∧ w66.heap[w.heap.size]? = w64.heap[w.heap.size]? ∧ w66.heap[w0.heap.size]? = w64.heap[w0.heap.size]? ∧ w66.heap[w39.drew.heap.size]? = w64.heap[w39.drew.heap.size]? ∧ 
 ∀ w68 : World, w68 = w66.setRow w39.drew.heap.size #[.int .i64 x63, .int .i64 x65, .int .i64 x67] →
 ([.int .i64 a1_0, .int .i64 a1_1, .int .i64 a1_2] : List Value) = [.int .i64 a1_0, .int .i64 a1_1, .int .i64 a1_2] ∧ ([.int .i64 a2_0, .int .i64 a2_1, .int .i64 a2_2] : List Value) = [.int .i64 a2_0, .int .i64 a2_1, .int .i64 a2_2] ∧ J40 (some ⟨w39.drew.heap.size, 0, none⟩) w68))))) ∧
 ∀ us69 : Nat → Value, ∀ (p70 : Option Addr) (w71 : World), J40 p70 w71 →
 ∃ (x72 : Int) (x73 : Int) (x74 : Int), LoadL w71.drew p38 0 [.int .i64 x72, .int .i64 x73, .int .i64 x74] ∧
 Calls Tryz.prog 22 #[.int .i64 a3] w71.drew (fun e w75 => ∃ (x76 : Int), e = .returned (.int .i64 x76) ∧ w75.heap[w.heap.size]? = w71.drew.heap[w.heap.size]? ∧ w75.heap[w0.heap.size]? = w71.drew.heap[w0.heap.size]? ∧ 
 LoadL w75 p38 0 [.int .i64 x72, .int .i64 x73, .int .i64 x74] ∧ Calls Tryz.prog 31 #[.pointer p3, .agg #[.int .i64 x72, .int .i64 x73, .int .i64 x74], .int .i64 x76] w75 (fun e w77 => ∃ (x78 : Int), e = .returned (.int .i64 x78) ∧ w77.heap[w.heap.size]? = w75.heap[w.heap.size]? ∧ w77.heap[w0.heap.size]? = w75.heap[w0.heap.size]? ∧ 
 ∃ (x79 : Int) (x80 : Int) (x81 : Int), LoadL w77.drew p70 0 [.int .i64 x79, .int .i64 x80, .int .i64 x81] ∧
 Calls Tryz.prog 22 #[.int .i64 a4] w77.drew (fun e w82 => ∃ (x83 : Int), e = .returned (.int .i64 x83) ∧ w82.heap[w.heap.size]? = w77.drew.heap[w.heap.size]? ∧ w82.heap[w0.heap.size]? = w77.drew.heap[w0.heap.size]? ∧ 
 LoadL w82 p70 0 [.int .i64 x79, .int .i64 x80, .int .i64 x81] ∧ Calls Tryz.prog 31 #[.pointer p3, .agg #[.int .i64 x79, .int .i64 x80, .int .i64 x81], .int .i64 x83] w82 (fun e w84 => ∃ (x85 : Int), e = .returned (.int .i64 x85) ∧ w84.heap[w.heap.size]? = w82.heap[w.heap.size]? ∧ w84.heap[w0.heap.size]? = w82.heap[w0.heap.size]? ∧ 
 ∃ (x86 : Int) (x87 : Int) (x88 : Int), LoadL w84 p38 0 [.int .i64 x86, .int .i64 x87, .int .i64 x88] ∧
 Calls Tryz.prog 27 #[.pointer p5, .agg #[.int .i64 x86, .int .i64 x87, .int .i64 x88]] w84 (fun e w89 => ∃ (x90 : Int), e = .returned (.int .i64 x90) ∧ w89.heap[w.heap.size]? = w84.heap[w.heap.size]? ∧ w89.heap[w0.heap.size]? = w84.heap[w0.heap.size]? ∧ 
 ∃ (x91 : Int) (x92 : Int) (x93 : Int), LoadL w89 p70 0 [.int .i64 x91, .int .i64 x92, .int .i64 x93] ∧
 Calls Tryz.prog 27 #[.pointer p5, .agg #[.int .i64 x91, .int .i64 x92, .int .i64 x93]] w89 (fun e w94 => ∃ (x95 : Int), e = .returned (.int .i64 x95) ∧ w94.heap[w.heap.size]? = w89.heap[w.heap.size]? ∧ w94.heap[w0.heap.size]? = w89.heap[w0.heap.size]? ∧ 
 ∃ (x96 : Int) (x97 : Int) (x98 : Int), LoadL w94 p38 0 [.int .i64 x96, .int .i64 x97, .int .i64 x98] ∧
 ∃ (x99 : Int) (x100 : Int) (x101 : Int), LoadL w94 p70 0 [.int .i64 x99, .int .i64 x100, .int .i64 x101] ∧
 Calls Tryz.prog 32 #[.pointer p3, .agg #[.int .i64 x96, .int .i64 x97, .int .i64 x98], .agg #[.int .i64 x99, .int .i64 x100, .int .i64 x101]] w94 (fun e w102 => ∃ (x103 : Int), e = .returned (.int .i64 x103) ∧ w102.heap[w.heap.size]? = w94.heap[w.heap.size]? ∧ w102.heap[w0.heap.size]? = w94.heap[w0.heap.size]? ∧ 
 Br ((x103 : Int) != 0)
 (R (.returned (.bool false)) w102)
 (∃ (x104 : Int) (x105 : Int) (x106 : Int), LoadL w102 p38 0 [.int .i64 x104, .int .i64 x105, .int .i64 x106] ∧
 Calls Tryz.prog 27 #[.pointer p5, .agg #[.int .i64 x104, .int .i64 x105, .int .i64 x106]] w102 (fun e w107 => ∃ (x108 : Int), e = .returned (.int .i64 x108) ∧ w107.heap[w.heap.size]? = w102.heap[w.heap.size]? ∧ w107.heap[w0.heap.size]? = w102.heap[w0.heap.size]? ∧ 
 Br ((x108 : Int) != x95)
 (R (.returned (.bool false)) w107)
 (∃ (x109 : Int) (x110 : Int) (x111 : Int), LoadL w107 p70 0 [.int .i64 x109, .int .i64 x110, .int .i64 x111] ∧
 Calls Tryz.prog 27 #[.pointer p5, .agg #[.int .i64 x109, .int .i64 x110, .int .i64 x111]] w107 (fun e w112 => ∃ (x113 : Int), e = .returned (.int .i64 x113) ∧ w112.heap[w.heap.size]? = w107.heap[w.heap.size]? ∧ w112.heap[w0.heap.size]? = w107.heap[w0.heap.size]? ∧ 
 Br ((x113 : Int) != x90)
 (R (.returned (.bool false)) w112)
 (∃ (x114 : Int) (x115 : Int) (x116 : Int), LoadL w112 p70 0 [.int .i64 x114, .int .i64 x115, .int .i64 x116] ∧
 ∃ (x117 : Int) (x118 : Int) (x119 : Int), LoadL w112 p38 0 [.int .i64 x117, .int .i64 x118, .int .i64 x119] ∧
 Calls Tryz.prog 32 #[.pointer p3, .agg #[.int .i64 x114, .int .i64 x115, .int .i64 x116], .agg #[.int .i64 x117, .int .i64 x118, .int .i64 x119]] w112 (fun e w120 => ∃ (x121 : Int), e = .returned (.int .i64 x121) ∧ w120.heap[w.heap.size]? = w112.heap[w.heap.size]? ∧ w120.heap[w0.heap.size]? = w112.heap[w0.heap.size]? ∧ 
 Br ((x121 : Int) == 0)
 (∃ (x122 : Int) (x123 : Int) (x124 : Int), LoadL w120 p38 0 [.int .i64 x122, .int .i64 x123, .int .i64 x124] ∧
 Calls Tryz.prog 27 #[.pointer p5, .agg #[.int .i64 x122, .int .i64 x123, .int .i64 x124]] w120 (fun e w125 => ∃ (x126 : Int), e = .returned (.int .i64 x126) ∧ w125.heap[w.heap.size]? = w120.heap[w.heap.size]? ∧ w125.heap[w0.heap.size]? = w120.heap[w0.heap.size]? ∧ 
 Br ((x126 : Int) == x90)
 (∃ (x127 : Int) (x128 : Int) (x129 : Int), LoadL w125 p70 0 [.int .i64 x127, .int .i64 x128, .int .i64 x129] ∧
 Calls Tryz.prog 27 #[.pointer p5, .agg #[.int .i64 x127, .int .i64 x128, .int .i64 x129]] w125 (fun e w130 => ∃ (x131 : Int), e = .returned (.int .i64 x131) ∧ w130.heap[w.heap.size]? = w125.heap[w.heap.size]? ∧ w130.heap[w0.heap.size]? = w125.heap[w0.heap.size]? ∧ 
 Br ((x131 : Int) == x95)
 (Calls Tryz.prog 19 #[] w130 (fun e w132 => ∃ (b133 : Bool), e = .returned (.bool b133) ∧ w132.heap[w.heap.size]? = w130.heap[w.heap.size]? ∧ w132.heap[w0.heap.size]? = w130.heap[w0.heap.size]? ∧ 
 R (.returned (.bool b133)) w132))
 (R (.returned (.bool false)) w130)))
 (R (.returned (.bool false)) w125)))
 (R (.returned (.bool false)) w120)))))))))))))))))))
theorem law13_WorldTwice.vc {a0 a1_0 a1_1 a1_2 a2_0 a2_1 a2_2 a3 a4 w} {R : Ending → World → Prop} (h : law13_WorldTwice.pre a0 a1_0 a1_1 a1_2 a2_0 a2_1 a2_2 a3 a4 w R) : Calls Tryz.prog n_law13_WorldTwice #[.int .i64 a0, .agg #[.int .i64 a1_0, .int .i64 a1_1, .int .i64 a1_2], .agg #[.int .i64 a2_0, .int .i64 a2_1, .int .i64 a2_2], .int .i64 a3, .int .i64 a4] w R :=
  calls_of_eq (an := ⟨[], [(10, ⟨[(14, .ptr)], [], []⟩), (9, ⟨[(13, .ptr)], [], []⟩)], []⟩) (args := [.int .i64 a0, .agg #[.int .i64 a1_0, .int .i64 a1_1, .int .i64 a1_2], .agg #[.int .i64 a2_0, .int .i64 a2_1, .int .i64 a2_2], .int .i64 a3, .int .i64 a4]) Tryz.noNG Tryz.mixed Tryz.func5 h (by kernel_rfl)


end Go.Proofs.YtbnmglonbhdcbaaGreatDoor
