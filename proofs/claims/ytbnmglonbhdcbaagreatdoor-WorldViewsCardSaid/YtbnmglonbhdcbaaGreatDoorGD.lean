import Derived.Test.YtbnmglonbhdcbaaGreatDoorG
set_option linter.all false
namespace Go.Proofs.YtbnmglonbhdcbaaGreatDoor
open Go Go.Vc Go.RowKit Go.Proofs
set_option maxRecDepth 100000
set_option maxHeartbeats 8000000
set_option linter.unusedVariables false
abbrev n_law13_WorldViews : FuncId := 3
abbrev n_law13_WorldViews_1 : FuncId := 13
abbrev n_ref13_Goodb : FuncId := 12
/- breccia/breccialaw13.WorldViews  -/
def law13_WorldViews.pre (a0_0 : Sl) (a0_1 : Int) (a1_0 : Int) (a1_1 : Int) (a1_2 : Int) (a2_0 : Int) (a2_1 : Int) (a2_2 : Int) (a3 : Int) (w : World) (R : Ending → World → Prop) : Prop :=
 ∀ w0 : World, w0 = w.alloc (.cells #[.slice a0_0.a a0_0.n a0_0.c, .int .i64 a0_1] 24) →
 ∀ w1 : World, w1 = w0.alloc (.cells #[.int .i64 a1_0, .int .i64 a1_1, .int .i64 a1_2] 26) →
 ∀ w2 : World, w2 = w1.alloc (.cells #[.int .i64 a2_0, .int .i64 a2_1, .int .i64 a2_2] 26) →
 Calls Tryz.prog n_ref13_Goodb #[.agg #[.slice a0_0.a a0_0.n a0_0.c, .int .i64 a0_1]] w2 (fun e w3 => ∃ (s4 : Sl) (x5 : Int), e = .returned (.agg #[.slice s4.a s4.n s4.c, .int .i64 x5]) ∧ w3.heap[w.heap.size]? = w2.heap[w.heap.size]? ∧ w3.heap[w0.heap.size]? = w2.heap[w0.heap.size]? ∧ w3.heap[w1.heap.size]? = w2.heap[w1.heap.size]? ∧ 
 ∀ w6 : World, w6 = w3.alloc (.cells #[.slice none 0 0, .int .i64 0] 24) →
 ∀ w7 : World, w7 = w6.setRow w3.heap.size #[.slice s4.a s4.n s4.c, .int .i64 x5] →
 ∃ J8 : Option Addr → World → Prop,
 ((Calls Tryz.prog 15 #[.int .i64 a1_0, .int .i64 8] w7.drew (fun e w9 => ∃ (x10 : Int), e = .returned (.int .i64 x10) ∧ w9.heap[w.heap.size]? = w7.drew.heap[w.heap.size]? ∧ w9.heap[w0.heap.size]? = w7.drew.heap[w0.heap.size]? ∧ w9.heap[w1.heap.size]? = w7.drew.heap[w1.heap.size]? ∧ 
 LoadL w9 (some ⟨w0.heap.size, 2, none⟩) 0 [.int .i64 a1_2] ∧ LoadL w9 (some ⟨w0.heap.size, 1, none⟩) 0 [.int .i64 a1_1] ∧ (Calls Tryz.prog 15 #[.int .i64 a1_1, .int .i64 8] w9 (fun e w11 => ∃ (x12 : Int), e = .returned (.int .i64 x12) ∧ w11.heap[w.heap.size]? = w9.heap[w.heap.size]? ∧ w11.heap[w0.heap.size]? = w9.heap[w0.heap.size]? ∧ w11.heap[w1.heap.size]? = w9.heap[w1.heap.size]? ∧ 
 LoadL w11 (some ⟨w0.heap.size, 2, none⟩) 0 [.int .i64 a1_2] ∧ (Calls Tryz.prog 15 #[.int .i64 a1_2, .int .i64 8] w11 (fun e w13 => ∃ (x14 : Int), e = .returned (.int .i64 x14) ∧ w13.heap[w.heap.size]? = w11.heap[w.heap.size]? ∧ w13.heap[w0.heap.size]? = w11.heap[w0.heap.size]? ∧ w13.heap[w1.heap.size]? = w11.heap[w1.heap.size]? ∧ 
 (∀ w15 : World, w15 = w13.alloc (.cells #[.int .i64 0, .int .i64 0, .int .i64 0] 26) →
 ∀ w16 : World, w16 = w15.setRow w13.heap.size #[.int .i64 (IntKind.wrap .i64 (x10 - 1)), .int .i64 (IntKind.wrap .i64 (x12 - 1)), .int .i64 (IntKind.wrap .i64 (x14 - 1))] →
 ([.slice a0_0.a a0_0.n a0_0.c, .int .i64 a0_1] : List Value) = [.slice a0_0.a a0_0.n a0_0.c, .int .i64 a0_1] ∧ ([.int .i64 a1_0, .int .i64 a1_1, .int .i64 a1_2] : List Value) = [.int .i64 a1_0, .int .i64 a1_1, .int .i64 a1_2] ∧ ([.int .i64 a2_0, .int .i64 a2_1, .int .i64 a2_2] : List Value) = [.int .i64 a2_0, .int .i64 a2_1, .int .i64 a2_2] ∧ J8 (some ⟨w13.heap.size, 0, none⟩) w16) ∧ (∀ w17 : World, w17 = w13.alloc (.cells #[.int .i64 0, .int .i64 0, .int .i64 0] 26) →
 ∀ w18 : World, w18 = w17.setRow w13.heap.size #[.int .i64 (IntKind.wrap .i64 (x10 - 1)), .int .i64 (IntKind.wrap .i64 (x12 - 1)), .int .i64 (IntKind.wrap .i64 (x14 - 1))] →
 ([.slice a0_0.a a0_0.n a0_0.c, .int .i64 a0_1] : List Value) = [.slice a0_0.a a0_0.n a0_0.c, .int .i64 a0_1] ∧ ([.int .i64 a1_0, .int .i64 a1_1, .int .i64 a1_2] : List Value) = [.int .i64 a1_0, .int .i64 a1_1, .int .i64 a1_2] ∧ ([.int .i64 a2_0, .int .i64 a2_1, .int .i64 a2_2] : List Value) = [.int .i64 a2_0, .int .i64 a2_1, .int .i64 a2_2] ∧ J8 (some ⟨w13.heap.size, 0, none⟩) w18))) ∧ (∀ w19 : World, w19 = w11.alloc (.cells #[.int .i64 0, .int .i64 0, .int .i64 0] 26) →
 Calls Tryz.prog 15 #[.int .i64 a1_2, .int .i64 8] w19 (fun e w20 => ∃ (x21 : Int), e = .returned (.int .i64 x21) ∧ w20.heap[w.heap.size]? = w19.heap[w.heap.size]? ∧ w20.heap[w0.heap.size]? = w19.heap[w0.heap.size]? ∧ w20.heap[w1.heap.size]? = w19.heap[w1.heap.size]? ∧ w20.heap[w11.heap.size]? = w19.heap[w11.heap.size]? ∧ 
 ∀ w22 : World, w22 = w20.setRow w11.heap.size #[.int .i64 (IntKind.wrap .i64 (x10 - 1)), .int .i64 (IntKind.wrap .i64 (x12 - 1)), .int .i64 (IntKind.wrap .i64 (x21 - 1))] →
 ([.slice a0_0.a a0_0.n a0_0.c, .int .i64 a0_1] : List Value) = [.slice a0_0.a a0_0.n a0_0.c, .int .i64 a0_1] ∧ ([.int .i64 a1_0, .int .i64 a1_1, .int .i64 a1_2] : List Value) = [.int .i64 a1_0, .int .i64 a1_1, .int .i64 a1_2] ∧ ([.int .i64 a2_0, .int .i64 a2_1, .int .i64 a2_2] : List Value) = [.int .i64 a2_0, .int .i64 a2_1, .int .i64 a2_2] ∧ J8 (some ⟨w11.heap.size, 0, none⟩) w22)))) ∧ (∀ w23 : World, w23 = w9.alloc (.cells #[.int .i64 0, .int .i64 0, .int .i64 0] 26) →
 Calls Tryz.prog 15 #[.int .i64 a1_1, .int .i64 8] w23 (fun e w24 => ∃ (x25 : Int), e = .returned (.int .i64 x25) ∧ w24.heap[w.heap.size]? = w23.heap[w.heap.size]? ∧ w24.heap[w0.heap.size]? = w23.heap[w0.heap.size]? ∧ w24.heap[w1.heap.size]? = w23.heap[w1.heap.size]? ∧ w24.heap[w9.heap.size]? = w23.heap[w9.heap.size]? ∧ 
 LoadL w24 (some ⟨w0.heap.size, 2, none⟩) 0 [.int .i64 a1_2] ∧ Calls Tryz.prog 15 #[.int .i64 a1_2, .int .i64 8] w24 (fun e w26 => ∃ (x27 : Int), e = .returned (.int .i64 x27) ∧ w26.heap[w.heap.size]? = w24.heap[w.heap.size]? ∧ w26.heap[w0.heap.size]? = w24.heap[w0.heap.size]? ∧ w26.heap[w1.heap.size]? = w24.heap[w1.heap.size]? ∧ w26.heap[w9.heap.size]? = w24.heap[w9.heap.size]? ∧ 
 ∀ w28 : World, w28 = w26.setRow w9.heap.size #[.int .i64 (IntKind.wrap .i64 (x10 - 1)), .int .i64 (IntKind.wrap .i64 (x25 - 1)), .int .i64 (IntKind.wrap .i64 (x27 - 1))] →
 ([.slice a0_0.a a0_0.n a0_0.c, .int .i64 a0_1] : List Value) = [.slice a0_0.a a0_0.n a0_0.c, .int .i64 a0_1] ∧ ([.int .i64 a1_0, .int .i64 a1_1, .int .i64 a1_2] : List Value) = [.int .i64 a1_0, .int .i64 a1_1, .int .i64 a1_2] ∧ ([.int .i64 a2_0, .int .i64 a2_1, .int .i64 a2_2] : List Value) = [.int .i64 a2_0, .int .i64 a2_1, .int .i64 a2_2] ∧ J8 (some ⟨w9.heap.size, 0, none⟩) w28))))) ∧ (∀ w29 : World, w29 = w7.drew.alloc (.cells #[.int .i64 0, .int .i64 0, .int .i64 0] 26) →
 Calls Tryz.prog 15 #[.int .i64 a1_0, .int .i64 8] w29 (fun e w30 => ∃ (x31 : Int), e = .returned (.int .i64 x31) ∧ w30.heap[w.heap.size]? = w29.heap[w.heap.size]? ∧ w30.heap[w0.heap.size]? = w29.heap[w0.heap.size]? ∧ w30.heap[w1.heap.size]? = w29.heap[w1.heap.size]? ∧ w30.heap[w7.drew.heap.size]? = w29.heap[w7.drew.heap.size]? ∧ 
 LoadL w30 (some ⟨w0.heap.size, 2, none⟩) 0 [.int .i64 a1_2] ∧ LoadL w30 (some ⟨w0.heap.size, 1, none⟩) 0 [.int .i64 a1_1] ∧ Calls Tryz.prog 15 #[.int .i64 a1_1, .int .i64 8] w30 (fun e w32 => ∃ (x33 : Int), e = .returned (.int .i64 x33) ∧ w32.heap[w.heap.size]? = w30.heap[w.heap.size]? ∧ w32.heap[w0.heap.size]? = w30.heap[w0.heap.size]? ∧ w32.heap[w1.heap.size]? = w30.heap[w1.heap.size]? ∧ w32.heap[w7.drew.heap.size]? = w30.heap[w7.drew.heap.size]? ∧ 
 LoadL w32 (some ⟨w0.heap.size, 2, none⟩) 0 [.int .i64 a1_2] ∧ Calls Tryz.prog 15 #[.int .i64 a1_2, .int .i64 8] w32 (fun e w34 => ∃ (x35 : Int), e = .returned (.int .i64 x35) ∧ w34.heap[w.heap.size]? = w32.heap[w.heap.size]? ∧ w34.heap[w0.heap.size]? = w32.heap[w0.heap.size]? ∧ w34.heap[w1.heap.size]? = w32.heap[w1.heap.size]? ∧ w34.heap[w7.drew.heap.size]? = w32.heap[w7.drew.heap.size]? ∧ 
 ∀ w36 : World, w36 = w34.setRow w7.drew.heap.size #[.int .i64 (IntKind.wrap .i64 (x31 - 1)), .int .i64 (IntKind.wrap .i64 (x33 - 1)), .int .i64 (IntKind.wrap .i64 (x35 - 1))] →
 ([.slice a0_0.a a0_0.n a0_0.c, .int .i64 a0_1] : List Value) = [.slice a0_0.a a0_0.n a0_0.c, .int .i64 a0_1] ∧ ([.int .i64 a1_0, .int .i64 a1_1, .int .i64 a1_2] : List Value) = [.int .i64 a1_0, .int .i64 a1_1, .int .i64 a1_2] ∧ ([.int .i64 a2_0, .int .i64 a2_1, .int .i64 a2_2] : List Value) = [.int .i64 a2_0, .int .i64 a2_1, .int .i64 a2_2] ∧ J8 (some ⟨w7.drew.heap.size, 0, none⟩) w36))))) ∧
 ∀ us37 : Nat → Value, ∀ (p38 : Option Addr) (w39 : World), J8 p38 w39 →
 ∃ J40 : Option Addr → World → Prop,
 (AndL (nnC p38) (∃ (x41 : Int), ld w39.drew (padd p38 0) = some (.int .i64 x41) ∧
 AndL (nnC p38) (∃ (x42 : Int), ld w39.drew (padd p38 1) = some (.int .i64 x42) ∧
 AndL (nnC p38) (∃ (x43 : Int), ld w39.drew (padd p38 2) = some (.int .i64 x43) ∧
 (Calls Tryz.prog 15 #[.int .i64 a2_0, .int .i64 9] w39.drew (fun e w44 => ∃ (x45 : Int), e = .returned (.int .i64 x45) ∧ w44.heap[w.heap.size]? = w39.drew.heap[w.heap.size]? ∧ w44.heap[w0.heap.size]? = w39.drew.heap[w0.heap.size]? ∧ w44.heap[w1.heap.size]? = w39.drew.heap[w1.heap.size]? ∧ 
 LoadL w44 (some ⟨w1.heap.size, 2, none⟩) 0 [.int .i64 a2_2] ∧ LoadL w44 (padd p38 2) 0 [.int .i64 x43] ∧ LoadL w44 (some ⟨w1.heap.size, 1, none⟩) 0 [.int .i64 a2_1] ∧ LoadL w44 (padd p38 1) 0 [.int .i64 x42] ∧ LoadL w44 (padd p38 0) 0 [.int .i64 x41] ∧ (Calls Tryz.prog 15 #[.int .i64 a2_1, .int .i64 9] w44 (fun e w46 => ∃ (x47 : Int), e = .returned (.int .i64 x47) ∧ w46.heap[w.heap.size]? = w44.heap[w.heap.size]? ∧ w46.heap[w0.heap.size]? = w44.heap[w0.heap.size]? ∧ w46.heap[w1.heap.size]? = w44.heap[w1.heap.size]? ∧ 
 LoadL w46 (some ⟨w1.heap.size, 2, none⟩) 0 [.int .i64 a2_2] ∧ LoadL w46 (padd p38 2) 0 [.int .i64 x43] ∧ LoadL w46 (padd p38 1) 0 [.int .i64 x42] ∧ LoadL w46 (padd p38 0) 0 [.int .i64 x41] ∧ (Calls Tryz.prog 15 #[.int .i64 a2_2, .int .i64 9] w46 (fun e w48 => ∃ (x49 : Int), e = .returned (.int .i64 x49) ∧ w48.heap[w.heap.size]? = w46.heap[w.heap.size]? ∧ w48.heap[w0.heap.size]? = w46.heap[w0.heap.size]? ∧ w48.heap[w1.heap.size]? = w46.heap[w1.heap.size]? ∧ 
 LoadL w48 (padd p38 2) 0 [.int .i64 x43] ∧ LoadL w48 (padd p38 1) 0 [.int .i64 x42] ∧ LoadL w48 (padd p38 0) 0 [.int .i64 x41] ∧ (∀ w50 : World, w50 = w48.alloc (.cells #[.int .i64 0, .int .i64 0, .int .i64 0] 26) →
 ∀ w51 : World, w51 = w50.setRow w48.heap.size #[.int .i64 (IntKind.wrap .i64 ((IntKind.wrap .i64 (x41 + x45)) - 1)), .int .i64 (IntKind.wrap .i64 ((IntKind.wrap .i64 (x42 + x47)) - 1)), .int .i64 (IntKind.wrap .i64 ((IntKind.wrap .i64 (x43 + x49)) - 1))] →
 ([.slice a0_0.a a0_0.n a0_0.c, .int .i64 a0_1] : List Value) = [.slice a0_0.a a0_0.n a0_0.c, .int .i64 a0_1] ∧ ([.int .i64 a1_0, .int .i64 a1_1, .int .i64 a1_2] : List Value) = [.int .i64 a1_0, .int .i64 a1_1, .int .i64 a1_2] ∧ ([.int .i64 a2_0, .int .i64 a2_1, .int .i64 a2_2] : List Value) = [.int .i64 a2_0, .int .i64 a2_1, .int .i64 a2_2] ∧ J40 (some ⟨w48.heap.size, 0, none⟩) w51) ∧ (∀ w52 : World, w52 = w48.alloc (.cells #[.int .i64 0, .int .i64 0, .int .i64 0] 26) →
 ∀ w53 : World, w53 = w52.setRow w48.heap.size #[.int .i64 (IntKind.wrap .i64 ((IntKind.wrap .i64 (x41 + x45)) - 1)), .int .i64 (IntKind.wrap .i64 ((IntKind.wrap .i64 (x42 + x47)) - 1)), .int .i64 (IntKind.wrap .i64 ((IntKind.wrap .i64 (x43 + x49)) - 1))] →
 ([.slice a0_0.a a0_0.n a0_0.c, .int .i64 a0_1] : List Value) = [.slice a0_0.a a0_0.n a0_0.c, .int .i64 a0_1] ∧ ([.int .i64 a1_0, .int .i64 a1_1, .int .i64 a1_2] : List Value) = [.int .i64 a1_0, .int .i64 a1_1, .int .i64 a1_2] ∧ ([.int .i64 a2_0, .int .i64 a2_1, .int .i64 a2_2] : List Value) = [.int .i64 a2_0, .int .i64 a2_1, .int .i64 a2_2] ∧ J40 (some ⟨w48.heap.size, 0, none⟩) w53))) ∧ (∀ w54 : World, w54 = w46.alloc (.cells #[.int .i64 0, .int .i64 0, .int .i64 0] 26) →
 Calls Tryz.prog 15 #[.int .i64 a2_2, .int .i64 9] w54 (fun e w55 => ∃ (x56 : Int), e = .returned (.int .i64 x56) ∧ w55.heap[w.heap.size]? = w54.heap[w.heap.size]? ∧ w55.heap[w0.heap.size]? = w54.heap[w0.heap.size]? ∧ w55.heap[w1.heap.size]? = w54.heap[w1.heap.size]? ∧ w55.heap[w46.heap.size]? = w54.heap[w46.heap.size]? ∧ 
 LoadL w55 (padd p38 2) 0 [.int .i64 x43] ∧ LoadL w55 (padd p38 1) 0 [.int .i64 x42] ∧ LoadL w55 (padd p38 0) 0 [.int .i64 x41] ∧ ∀ w57 : World, w57 = w55.setRow w46.heap.size #[.int .i64 (IntKind.wrap .i64 ((IntKind.wrap .i64 (x41 + x45)) - 1)), .int .i64 (IntKind.wrap .i64 ((IntKind.wrap .i64 (x42 + x47)) - 1)), .int .i64 (IntKind.wrap .i64 ((IntKind.wrap .i64 (x43 + x56)) - 1))] →
 ([.slice a0_0.a a0_0.n a0_0.c, .int .i64 a0_1] : List Value) = [.slice a0_0.a a0_0.n a0_0.c, .int .i64 a0_1] ∧ ([.int .i64 a1_0, .int .i64 a1_1, .int .i64 a1_2] : List Value) = [.int .i64 a1_0, .int .i64 a1_1, .int .i64 a1_2] ∧ ([.int .i64 a2_0, .int .i64 a2_1, .int .i64 a2_2] : List Value) = [.int .i64 a2_0, .int .i64 a2_1, .int .i64 a2_2] ∧ J40 (some ⟨w46.heap.size, 0, none⟩) w57)))) ∧ (∀ w58 : World, w58 = w44.alloc (.cells #[.int .i64 0, .int .i64 0, .int .i64 0] 26) →
 Calls Tryz.prog 15 #[.int .i64 a2_1, .int .i64 9] w58 (fun e w59 => ∃ (x60 : Int), e = .returned (.int .i64 x60) ∧ w59.heap[w.heap.size]? = w58.heap[w.heap.size]? ∧ w59.heap[w0.heap.size]? = w58.heap[w0.heap.size]? ∧ w59.heap[w1.heap.size]? = w58.heap[w1.heap.size]? ∧ w59.heap[w44.heap.size]? = w58.heap[w44.heap.size]? ∧ 
 LoadL w59 (some ⟨w1.heap.size, 2, none⟩) 0 [.int .i64 a2_2] ∧ LoadL w59 (padd p38 2) 0 [.int .i64 x43] ∧ LoadL w59 (padd p38 1) 0 [.int .i64 x42] ∧ LoadL w59 (padd p38 0) 0 [.int .i64 x41] ∧ Calls Tryz.prog 15 #[.int .i64 a2_2, .int .i64 9] w59 (fun e w61 => ∃ (x62 : Int), e = .returned (.int .i64 x62) ∧ w61.heap[w.heap.size]? = w59.heap[w.heap.size]? ∧ w61.heap[w0.heap.size]? = w59.heap[w0.heap.size]? ∧ w61.heap[w1.heap.size]? = w59.heap[w1.heap.size]? ∧ w61.heap[w44.heap.size]? = w59.heap[w44.heap.size]? ∧ 
 LoadL w61 (padd p38 2) 0 [.int .i64 x43] ∧ LoadL w61 (padd p38 1) 0 [.int .i64 x42] ∧ LoadL w61 (padd p38 0) 0 [.int .i64 x41] ∧ ∀ w63 : World, w63 = w61.setRow w44.heap.size #[.int .i64 (IntKind.wrap .i64 ((IntKind.wrap .i64 (x41 + x45)) - 1)), .int .i64 (IntKind.wrap .i64 ((IntKind.wrap .i64 (x42 + x60)) - 1)), .int .i64 (IntKind.wrap .i64 ((IntKind.wrap .i64 (x43 + x62)) - 1))] →
 ([.slice a0_0.a a0_0.n a0_0.c, .int .i64 a0_1] : List Value) = [.slice a0_0.a a0_0.n a0_0.c, .int .i64 a0_1] ∧ ([.int .i64 a1_0, .int .i64 a1_1, .int .i64 a1_2] : List Value) = [.int .i64 a1_0, .int .i64 a1_1, .int .i64 a1_2] ∧ ([.int .i64 a2_0, .int .i64 a2_1, .int .i64 a2_2] : List Value) = [.int .i64 a2_0, .int .i64 a2_1, .int .i64 a2_2] ∧ J40 (some ⟨w44.heap.size, 0, none⟩) w63))))) ∧ (∀ w64 : World, w64 = w39.drew.alloc (.cells #[.int .i64 0, .int .i64 0, .int .i64 0] 26) →
 Calls Tryz.prog 15 #[.int .i64 a2_0, .int .i64 9] w64 (fun e w65 => ∃ (x66 : Int), e = .returned (.int .i64 x66) ∧ w65.heap[w.heap.size]? = w64.heap[w.heap.size]? ∧ w65.heap[w0.heap.size]? = w64.heap[w0.heap.size]? ∧ w65.heap[w1.heap.size]? = w64.heap[w1.heap.size]? ∧ w65.heap[w39.drew.heap.size]? = w64.heap[w39.drew.heap.size]? ∧ 
 LoadL w65 (some ⟨w1.heap.size, 2, none⟩) 0 [.int .i64 a2_2] ∧ LoadL w65 (padd p38 2) 0 [.int .i64 x43] ∧ LoadL w65 (some ⟨w1.heap.size, 1, none⟩) 0 [.int .i64 a2_1] ∧ LoadL w65 (padd p38 1) 0 [.int .i64 x42] ∧ LoadL w65 (padd p38 0) 0 [.int .i64 x41] ∧ Calls Tryz.prog 15 #[.int .i64 a2_1, .int .i64 9] w65 (fun e w67 => ∃ (x68 : Int), e = .returned (.int .i64 x68) ∧ w67.heap[w.heap.size]? = w65.heap[w.heap.size]? ∧ w67.heap[w0.heap.size]? = w65.heap[w0.heap.size]? ∧ w67.heap[w1.heap.size]? = w65.heap[w1.heap.size]? ∧ w67.heap[w39.drew.heap.size]? = w65.heap[w39.drew.heap.size]? ∧ 
 LoadL w67 (some ⟨w1.heap.size, 2, none⟩) 0 [.int .i64 a2_2] ∧ LoadL w67 (padd p38 2) 0 [.int .i64 x43] ∧ LoadL w67 (padd p38 1) 0 [.int .i64 x42] ∧ LoadL w67 (padd p38 0) 0 [.int .i64 x41] ∧ Calls Tryz.prog 15 #[.int .i64 a2_2, .int .i64 9] w67 (fun e w69 => ∃ (x70 : Int), e = .returned (.int .i64 x70) ∧ w69.heap[w.heap.size]? = w67.heap[w.heap.size]? ∧ w69.heap[w0.heap.size]? = w67.heap[w0.heap.size]? ∧ w69.heap[w1.heap.size]? = w67.heap[w1.heap.size]? ∧ w69.heap[w39.drew.heap.size]? = w67.heap[w39.drew.heap.size]? ∧ 
 LoadL w69 (padd p38 2) 0 [.int .i64 x43] ∧ LoadL w69 (padd p38 1) 0 [.int .i64 x42] ∧ LoadL w69 (padd p38 0) 0 [.int .i64 x41] ∧ ∀ w71 : World, w71 = w69.setRow w39.drew.heap.size #[.int .i64 (IntKind.wrap .i64 ((IntKind.wrap .i64 (x41 + x66)) - 1)), .int .i64 (IntKind.wrap .i64 ((IntKind.wrap .i64 (x42 + x68)) - 1)), .int .i64 (IntKind.wrap .i64 ((IntKind.wrap .i64 (x43 + x70)) - 1))] →
 ([.slice a0_0.a a0_0.n a0_0.c, .int .i64 a0_1] : List Value) = [.slice a0_0.a a0_0.n a0_0.c, .int .i64 a0_1] ∧ ([.int .i64 a1_0, .int .i64 a1_1, .int .i64 a1_2] : List Value) = [.int .i64 a1_0, .int .i64 a1_1, .int .i64 a1_2] ∧ ([.int .i64 a2_0, .int .i64 a2_1, .int .i64 a2_2] : List Value) = [.int .i64 a2_0, .int .i64 a2_1, .int .i64 a2_2] ∧ J40 (some ⟨w39.drew.heap.size, 0, none⟩) w71)))))))) ∧
 ∀ us72 : Nat → Value, ∀ (p73 : Option Addr) (w74 : World), J40 p73 w74 →
 AndL (nnC p38) (∃ (x75 : Int), ld w74 (padd p38 0) = some (.int .i64 x75) ∧
 ∃ I76 : Nat → Int → Int → World → Prop,
 (∃ n77, ([.slice a0_0.a a0_0.n a0_0.c, .int .i64 a0_1] : List Value) = [.slice a0_0.a a0_0.n a0_0.c, .int .i64 a0_1] ∧ ([.int .i64 a1_0, .int .i64 a1_1, .int .i64 a1_2] : List Value) = [.int .i64 a1_0, .int .i64 a1_1, .int .i64 a1_2] ∧ ([.int .i64 a2_0, .int .i64 a2_1, .int .i64 a2_2] : List Value) = [.int .i64 a2_0, .int .i64 a2_1, .int .i64 a2_2] ∧ I76 n77 (x75) (0) w74) ∧
 ∀ (n77 : Nat) (us78 : Nat → Value) (x79 : Int) (x80 : Int) (w81 : World), I76 n77 x79 x80 w81 →
 AndL (nnC p73) (∃ (x83 : Int), ld w81 (padd p73 0) = some (.int .i64 x83) ∧
 Br (decide ((x79 : Int) ≤ x83))
 (AndL (nnC p38) (∃ (x84 : Int), ld w81 (padd p38 1) = some (.int .i64 x84) ∧
 ∃ I85 : Nat → Int → Int → World → Prop,
 (∃ n86, ([.slice a0_0.a a0_0.n a0_0.c, .int .i64 a0_1] : List Value) = [.slice a0_0.a a0_0.n a0_0.c, .int .i64 a0_1] ∧ ([.int .i64 a1_0, .int .i64 a1_1, .int .i64 a1_2] : List Value) = [.int .i64 a1_0, .int .i64 a1_1, .int .i64 a1_2] ∧ ([.int .i64 a2_0, .int .i64 a2_1, .int .i64 a2_2] : List Value) = [.int .i64 a2_0, .int .i64 a2_1, .int .i64 a2_2] ∧ I85 n86 (x84) (x80) w81) ∧
 ∀ (n86 : Nat) (us87 : Nat → Value) (x88 : Int) (x89 : Int) (w90 : World), I85 n86 x88 x89 w90 →
 AndL (nnC p73) (∃ (x92 : Int), ld w90 (padd p73 1) = some (.int .i64 x92) ∧
 Br (decide ((x88 : Int) ≤ x92))
 (AndL (nnC p38) (∃ (x93 : Int), ld w90 (padd p38 2) = some (.int .i64 x93) ∧
 ∃ I94 : Nat → Int → Int → World → Prop,
 (∃ n95, ([.slice a0_0.a a0_0.n a0_0.c, .int .i64 a0_1] : List Value) = [.slice a0_0.a a0_0.n a0_0.c, .int .i64 a0_1] ∧ ([.int .i64 a1_0, .int .i64 a1_1, .int .i64 a1_2] : List Value) = [.int .i64 a1_0, .int .i64 a1_1, .int .i64 a1_2] ∧ ([.int .i64 a2_0, .int .i64 a2_1, .int .i64 a2_2] : List Value) = [.int .i64 a2_0, .int .i64 a2_1, .int .i64 a2_2] ∧ I94 n95 (x93) (x89) w90) ∧
 ∀ (n95 : Nat) (us96 : Nat → Value) (x97 : Int) (x98 : Int) (w99 : World), I94 n95 x97 x98 w99 →
 AndL (nnC p73) (∃ (x101 : Int), ld w99 (padd p73 2) = some (.int .i64 x101) ∧
 Br (decide ((x97 : Int) ≤ x101))
 (∃ (s102 : Sl) (x103 : Int), LoadL w99 (some ⟨w3.heap.size, 0, none⟩) 0 [.slice s102.a s102.n s102.c, .int .i64 x103] ∧
 Calls Tryz.prog 14 #[.agg #[.slice s102.a s102.n s102.c, .int .i64 x103], .agg #[.int .i64 x79, .int .i64 x88, .int .i64 x97]] w99 (fun e w104 => ∃ (x105 : Int), e = .returned (.int .i64 x105) ∧ w104.heap[w.heap.size]? = w99.heap[w.heap.size]? ∧ w104.heap[w0.heap.size]? = w99.heap[w0.heap.size]? ∧ w104.heap[w1.heap.size]? = w99.heap[w1.heap.size]? ∧ 
 Br ((x105 : Int) == a3)
 (∃ n100, n100 < n95 ∧ ([.slice a0_0.a a0_0.n a0_0.c, .int .i64 a0_1] : List Value) = [.slice a0_0.a a0_0.n a0_0.c, .int .i64 a0_1] ∧ ([.int .i64 a1_0, .int .i64 a1_1, .int .i64 a1_2] : List Value) = [.int .i64 a1_0, .int .i64 a1_1, .int .i64 a1_2] ∧ ([.int .i64 a2_0, .int .i64 a2_1, .int .i64 a2_2] : List Value) = [.int .i64 a2_0, .int .i64 a2_1, .int .i64 a2_2] ∧ I94 n100 ((IntKind.wrap .i64 (x97 + 1))) ((IntKind.wrap .i64 (x98 + 1))) w104)
 (∃ n100, n100 < n95 ∧ ([.slice a0_0.a a0_0.n a0_0.c, .int .i64 a0_1] : List Value) = [.slice a0_0.a a0_0.n a0_0.c, .int .i64 a0_1] ∧ ([.int .i64 a1_0, .int .i64 a1_1, .int .i64 a1_2] : List Value) = [.int .i64 a1_0, .int .i64 a1_1, .int .i64 a1_2] ∧ ([.int .i64 a2_0, .int .i64 a2_1, .int .i64 a2_2] : List Value) = [.int .i64 a2_0, .int .i64 a2_1, .int .i64 a2_2] ∧ I94 n100 ((IntKind.wrap .i64 (x97 + 1))) (x98) w104)))
 (∃ n91, n91 < n86 ∧ ([.slice a0_0.a a0_0.n a0_0.c, .int .i64 a0_1] : List Value) = [.slice a0_0.a a0_0.n a0_0.c, .int .i64 a0_1] ∧ ([.int .i64 a1_0, .int .i64 a1_1, .int .i64 a1_2] : List Value) = [.int .i64 a1_0, .int .i64 a1_1, .int .i64 a1_2] ∧ ([.int .i64 a2_0, .int .i64 a2_1, .int .i64 a2_2] : List Value) = [.int .i64 a2_0, .int .i64 a2_1, .int .i64 a2_2] ∧ I85 n91 ((IntKind.wrap .i64 (x88 + 1))) (x98) w99))))
 (∃ n82, n82 < n77 ∧ ([.slice a0_0.a a0_0.n a0_0.c, .int .i64 a0_1] : List Value) = [.slice a0_0.a a0_0.n a0_0.c, .int .i64 a0_1] ∧ ([.int .i64 a1_0, .int .i64 a1_1, .int .i64 a1_2] : List Value) = [.int .i64 a1_0, .int .i64 a1_1, .int .i64 a1_2] ∧ ([.int .i64 a2_0, .int .i64 a2_1, .int .i64 a2_2] : List Value) = [.int .i64 a2_0, .int .i64 a2_1, .int .i64 a2_2] ∧ I76 n82 ((IntKind.wrap .i64 (x79 + 1))) (x89) w90))))
 (∃ (x106 : Int) (x107 : Int) (x108 : Int), LoadL w81.drew p38 0 [.int .i64 x106, .int .i64 x107, .int .i64 x108] ∧
 ∃ (s109 : Sl) (x110 : Int), LoadL w81.drew (some ⟨w3.heap.size, 0, none⟩) 0 [.slice s109.a s109.n s109.c, .int .i64 x110] ∧
 ∃ (x111 : Int) (x112 : Int) (x113 : Int), LoadL w81.drew p38 0 [.int .i64 x111, .int .i64 x112, .int .i64 x113] ∧
 Calls Tryz.prog 16 #[.func (.func 13) #[] #[.pointer (some ⟨w3.heap.size, 0, none⟩)], .agg #[.int .i64 x106, .int .i64 x107, .int .i64 x108]] w81.drew (fun e w114 => ∃ (b115 : Bool), e = .returned (.bool b115) ∧ w114.heap[w.heap.size]? = w81.drew.heap[w.heap.size]? ∧ w114.heap[w0.heap.size]? = w81.drew.heap[w0.heap.size]? ∧ w114.heap[w1.heap.size]? = w81.drew.heap[w1.heap.size]? ∧ 
 LoadL w114 p38 0 [.int .i64 x111, .int .i64 x112, .int .i64 x113] ∧ LoadL w114 (some ⟨w3.heap.size, 0, none⟩) 0 [.slice s109.a s109.n s109.c, .int .i64 x110] ∧ Calls Tryz.prog 14 #[.agg #[.slice s109.a s109.n s109.c, .int .i64 x110], .agg #[.int .i64 x111, .int .i64 x112, .int .i64 x113]] w114 (fun e w116 => ∃ (x117 : Int), e = .returned (.int .i64 x117) ∧ w116.heap[w.heap.size]? = w114.heap[w.heap.size]? ∧ w116.heap[w0.heap.size]? = w114.heap[w0.heap.size]? ∧ w116.heap[w1.heap.size]? = w114.heap[w1.heap.size]? ∧ 
 Calls Tryz.prog 17 #[.int .i64 x117] w116 (fun e w118 => ∃ (b119 : Bool), e = .returned (.bool b119) ∧ w118.heap[w.heap.size]? = w116.heap[w.heap.size]? ∧ w118.heap[w0.heap.size]? = w116.heap[w0.heap.size]? ∧ w118.heap[w1.heap.size]? = w116.heap[w1.heap.size]? ∧ 
 Br (b115 == b119)
 (∃ (x120 : Int) (x121 : Int) (x122 : Int), LoadL w118 p38 0 [.int .i64 x120, .int .i64 x121, .int .i64 x122] ∧
 ∃ (x123 : Int) (x124 : Int) (x125 : Int), LoadL w118 p73 0 [.int .i64 x123, .int .i64 x124, .int .i64 x125] ∧
 Calls Tryz.prog 18 #[.func (.func 13) #[] #[.pointer (some ⟨w3.heap.size, 0, none⟩)], .agg #[.int .i64 x120, .int .i64 x121, .int .i64 x122], .agg #[.int .i64 x123, .int .i64 x124, .int .i64 x125], .int .i64 a3] w118 (fun e w126 => ∃ (x127 : Int), e = .returned (.int .i64 x127) ∧ w126.heap[w.heap.size]? = w118.heap[w.heap.size]? ∧ w126.heap[w0.heap.size]? = w118.heap[w0.heap.size]? ∧ w126.heap[w1.heap.size]? = w118.heap[w1.heap.size]? ∧ 
 Br ((x127 : Int) == x80)
 (Calls Tryz.prog 19 #[] w126 (fun e w128 => ∃ (b129 : Bool), e = .returned (.bool b129) ∧ w128.heap[w.heap.size]? = w126.heap[w.heap.size]? ∧ w128.heap[w0.heap.size]? = w126.heap[w0.heap.size]? ∧ w128.heap[w1.heap.size]? = w126.heap[w1.heap.size]? ∧ 
 R (.returned (.bool b129)) w128))
 (R (.returned (.bool false)) w126)))
 (R (.returned (.bool false)) w118))))))))
theorem law13_WorldViews.vc {a0_0 a0_1 a1_0 a1_1 a1_2 a2_0 a2_1 a2_2 a3 w} {R : Ending → World → Prop} (h : law13_WorldViews.pre a0_0 a0_1 a1_0 a1_1 a1_2 a2_0 a2_1 a2_2 a3 w R) : Calls Tryz.prog n_law13_WorldViews #[.agg #[.slice a0_0.a a0_0.n a0_0.c, .int .i64 a0_1], .agg #[.int .i64 a1_0, .int .i64 a1_1, .int .i64 a1_2], .agg #[.int .i64 a2_0, .int .i64 a2_1, .int .i64 a2_2], .int .i64 a3] w R :=
  calls_of_eq (an := ⟨[(13, ⟨[(16, .int .i64), (13, .int .i64)], [], []⟩), (10, ⟨[(15, .int .i64), (13, .int .i64)], [], []⟩), (7, ⟨[(14, .int .i64), (13, .int .i64)], [], []⟩)], [(5, ⟨[(12, .ptr)], [], []⟩), (4, ⟨[(11, .ptr)], [], []⟩)], []⟩) (args := [.agg #[.slice a0_0.a a0_0.n a0_0.c, .int .i64 a0_1], .agg #[.int .i64 a1_0, .int .i64 a1_1, .int .i64 a1_2], .agg #[.int .i64 a2_0, .int .i64 a2_1, .int .i64 a2_2], .int .i64 a3]) Tryz.noNG Tryz.mixed Tryz.func3 h (by kernel_rfl)

/- breccia/breccialaw13.WorldViews$1  -/
def law13_WorldViews_1.pre (a0_0 : Int) (a0_1 : Int) (a0_2 : Int) (c0 : Addr) (w : World) (R : Ending → World → Prop) : Prop :=
 ∀ w0 : World, w0 = w.alloc (.cells #[.int .i64 a0_0, .int .i64 a0_1, .int .i64 a0_2] 26) →
 ∃ (s1 : Sl) (x2 : Int), LoadL w0 (some c0) 0 [.slice s1.a s1.n s1.c, .int .i64 x2] ∧
 Calls Tryz.prog 14 #[.agg #[.slice s1.a s1.n s1.c, .int .i64 x2], .agg #[.int .i64 a0_0, .int .i64 a0_1, .int .i64 a0_2]] w0 (fun e w3 => ∃ (x4 : Int), e = .returned (.int .i64 x4) ∧ w3.heap[w.heap.size]? = w0.heap[w.heap.size]? ∧ 
 R (.returned (.int .i64 x4)) w3)
theorem law13_WorldViews_1.vc {a0_0 a0_1 a0_2 c0 w} {R : Ending → World → Prop} (h : law13_WorldViews_1.pre a0_0 a0_1 a0_2 c0 w R) : Calls Tryz.prog n_law13_WorldViews_1 #[.agg #[.int .i64 a0_0, .int .i64 a0_1, .int .i64 a0_2], .pointer (some c0)] w R :=
  calls_of_eq (an := ⟨[], [], []⟩) (args := [.agg #[.int .i64 a0_0, .int .i64 a0_1, .int .i64 a0_2], .pointer (some c0)]) Tryz.noNG Tryz.mixed Tryz.func13 h (by kernel_rfl)

/- breccia/brecciaref13.Good  -/
def ref13_Goodb.pre (a0_0 : Sl) (a0_1 : Int) (w : World) (R : Ending → World → Prop) : Prop :=
 ∀ w0 : World, w0 = w.alloc (.cells #[.slice a0_0.a a0_0.n a0_0.c, .int .i64 a0_1] 24) →
 ∀ w1 : World, w1 = w0.alloc (.cells #[.slice none 0 0, .int .i64 0] 24) →
 ∀ w2 : World, w2 = w1.alloc (.cells #[.slice none 0 0, .int .i64 0] 24) →
 ∃ I3 : Nat → Int → Sl → Int → World → Prop,
 (∃ n4, ([.slice a0_0.a a0_0.n a0_0.c, .int .i64 a0_1] : List Value) = [.slice a0_0.a a0_0.n a0_0.c, .int .i64 a0_1] ∧ ([.slice none 0 0, .int .i64 0] : List Value) = [.slice none 0 0, .int .i64 0] ∧ I3 n4 (0) ⟨none, 0, 0⟩ (0) w2) ∧
 ∀ (n4 : Nat) (us5 : Nat → Value) (x6 : Int) (s7 : Sl) (x8 : Int) (w9 : World), I3 n4 x6 s7 x8 w9 →
 Br (decide ((x6 : Int) < ((a0_0.n : Nat) : Int)))
 (Br (decide ((x6 : Int) < 216))
 (InB a0_0.a x6 a0_0.n ∧ ∃ (x11 : Int), ld w9.drew (padd a0_0.a ((x6 : Int).toNat * 1)) = some (.int .i64 x11) ∧
 Calls Tryz.prog 22 #[.int .i64 x11] w9.drew (fun e w12 => ∃ (x13 : Int), e = .returned (.int .i64 x13) ∧ w12.heap[w.heap.size]? = w9.drew.heap[w.heap.size]? ∧ w12.heap[w0.heap.size]? = w9.drew.heap[w0.heap.size]? ∧ w12.heap[w1.heap.size]? = w9.drew.heap[w1.heap.size]? ∧ 
 LoadL w12 (some ⟨w.heap.size, 0, none⟩) 0 [.slice a0_0.a a0_0.n a0_0.c] ∧ LoadL w12 (some ⟨w1.heap.size, 0, none⟩) 0 [.slice s7.a s7.n s7.c] ∧ ∀ w14 : World, w14 = w12.alloc (.cells #[.int .i64 x13] 3) →
 AppPre 8 1 w14 ⟨s7.a, s7.n, s7.c⟩ 1 [.int .i64 x13] ∧ ∀ (s15 : Sl) (w16 : World), AppRes 3 1 w14 ⟨s7.a, s7.n, s7.c⟩ 1 [.int .i64 x13] s15 w16 → w16.heap[w.heap.size]? = w14.heap[w.heap.size]? ∧ w16.heap[w0.heap.size]? = w14.heap[w0.heap.size]? ∧ w16.heap[w1.heap.size]? = w14.heap[w1.heap.size]? ∧ w16.heap[w12.heap.size]? = w14.heap[w12.heap.size]? ∧ 
 LoadL w16 (some ⟨w.heap.size, 0, none⟩) 0 [.slice a0_0.a a0_0.n a0_0.c] ∧ ∀ w17 : World, w17 = w16.setRow w1.heap.size #[.slice s15.a s15.n s15.c, .int .i64 x8] →
 ∃ n10, n10 < n4 ∧ ([.slice a0_0.a a0_0.n a0_0.c, .int .i64 a0_1] : List Value) = [.slice a0_0.a a0_0.n a0_0.c, .int .i64 a0_1] ∧ ([.slice none 0 0, .int .i64 0] : List Value) = [.slice none 0 0, .int .i64 0] ∧ I3 n10 ((IntKind.wrap .i64 (x6 + 1))) ⟨s15.a, s15.n, s15.c⟩ (x8) w17))
 (Calls Tryz.prog 15 #[.int .i64 a0_1, .int .i64 3] w9 (fun e w18 => ∃ (x19 : Int), e = .returned (.int .i64 x19) ∧ w18.heap[w.heap.size]? = w9.heap[w.heap.size]? ∧ w18.heap[w0.heap.size]? = w9.heap[w0.heap.size]? ∧ w18.heap[w1.heap.size]? = w9.heap[w1.heap.size]? ∧ 
 ∀ w20 : World, w20 = w18.setRow w1.heap.size #[.slice s7.a s7.n s7.c, .int .i64 (IntKind.wrap .i64 (x19 - 1))] →
 ∀ w21 : World, w21 = w20.setRow w0.heap.size #[.slice s7.a s7.n s7.c, .int .i64 (IntKind.wrap .i64 (x19 - 1))] →
 R (.returned (.agg #[.slice s7.a s7.n s7.c, .int .i64 (IntKind.wrap .i64 (x19 - 1))])) w21)))
 (Calls Tryz.prog 15 #[.int .i64 a0_1, .int .i64 3] w9 (fun e w22 => ∃ (x23 : Int), e = .returned (.int .i64 x23) ∧ w22.heap[w.heap.size]? = w9.heap[w.heap.size]? ∧ w22.heap[w0.heap.size]? = w9.heap[w0.heap.size]? ∧ w22.heap[w1.heap.size]? = w9.heap[w1.heap.size]? ∧ 
 ∀ w24 : World, w24 = w22.setRow w1.heap.size #[.slice s7.a s7.n s7.c, .int .i64 (IntKind.wrap .i64 (x23 - 1))] →
 ∀ w25 : World, w25 = w24.setRow w0.heap.size #[.slice s7.a s7.n s7.c, .int .i64 (IntKind.wrap .i64 (x23 - 1))] →
 R (.returned (.agg #[.slice s7.a s7.n s7.c, .int .i64 (IntKind.wrap .i64 (x23 - 1))])) w25))
theorem ref13_Goodb.vc {a0_0 a0_1 w} {R : Ending → World → Prop} (h : ref13_Goodb.pre a0_0 a0_1 w R) : Calls Tryz.prog n_ref13_Goodb #[.agg #[.slice a0_0.a a0_0.n a0_0.c, .int .i64 a0_1]] w R :=
  calls_of_eq (an := ⟨[(3, ⟨[(4, .int .i64)], [(2, [.slice, .int .i64])], []⟩)], [], []⟩) (args := [.agg #[.slice a0_0.a a0_0.n a0_0.c, .int .i64 a0_1]]) Tryz.noNG Tryz.mixed Tryz.func12 h (by kernel_rfl)


end Go.Proofs.YtbnmglonbhdcbaaGreatDoor
