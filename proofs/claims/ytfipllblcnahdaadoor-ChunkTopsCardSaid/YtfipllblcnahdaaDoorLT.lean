import Derived.Test.YtfipllblcnahdaaDoorG
set_option linter.all false
namespace Go.Proofs.YtfipllblcnahdaaDoor
open Go Go.Vc Go.RowKit Go.Proofs
set_option maxRecDepth 100000
set_option maxHeartbeats 8000000
set_option linter.unusedVariables false
abbrev n_law11_ChunkTops : FuncId := 7
/- breccia/breccialaw11.ChunkTops  -/
def law11_ChunkTops.pre (a0 : Int) (a1_0 : Int) (a1_1 : Int) (a2 : Sl) (a3 : Int) (a4 : Int) (w : World) (R : Ending → World → Prop) : Prop :=
 ∀ w0 : World, w0 = w.alloc (.cells #[.int .i64 a1_0, .int .i64 a1_1] 27) →
 Calls Tryd.prog 16 #[.agg #[.int .i64 a1_0, .int .i64 a1_1]] w0 (fun e w1 => ∃ (x2 : Int) (x3 : Int), e = .returned (.agg #[.int .i64 x2, .int .i64 x3]) ∧ w1.heap[w.heap.size]? = w0.heap[w.heap.size]? ∧ 
 ∀ w4 : World, w4 = w1.setRow w.heap.size #[.int .i64 x2, .int .i64 x3] →
 Calls Tryd.prog 10 #[.int .i64 a0, .agg #[.int .i64 x2, .int .i64 x3]] w4 (fun e w5 => ∃ (p6 : Option Addr), e = .returned (.pointer p6) ∧ w5.heap[w.heap.size]? = w4.heap[w.heap.size]? ∧ 
 Br (p6).isNone
 (R (.returned (.bool false)) w5)
 (Calls Tryd.prog 27 #[.pointer p6] w5 (fun e w7 => ∃ (p8 : Option Addr), e = .returned (.pointer p8) ∧ w7.heap[w.heap.size]? = w5.heap[w.heap.size]? ∧ 
 Br (p8).isNone
 (R (.returned (.bool false)) w7)
 (Calls Tryd.prog 17 #[.int .i64 a0, .agg #[.int .i64 x2, .int .i64 x3]] w7 (fun e w9 => ∃ (x10 : Int) (x11 : Int) (s12 : Sl), e = .returned (.agg #[.int .i64 x10, .int .i64 x11, .slice s12.a s12.n s12.c]) ∧ w9.heap[w.heap.size]? = w7.heap[w.heap.size]? ∧ 
 ∀ w13 : World, w13 = w9.alloc (.cells #[.int .i64 0, .int .i64 0, .slice none 0 0] 38) →
 ∀ w14 : World, w14 = w13.setRow w9.heap.size #[.int .i64 x10, .int .i64 x11, .slice s12.a s12.n s12.c] →
 ∀ w15 : World, w15 = w14.alloc (.cells #[.int .i64 0, .int .i64 0, .slice none 0 0] 38) →
 ∀ w16 : World, w16 = w15.setRow w14.heap.size #[.int .i64 x10, .int .i64 x11, .slice s12.a s12.n s12.c] →
 ∃ I17 : Nat → Int → Int → Int → Sl → World → Prop,
 (∃ n18, ([.int .i64 x2, .int .i64 x3] : List Value) = [.int .i64 x2, .int .i64 x3] ∧ ([.int .i64 x10, .int .i64 x11, .slice s12.a s12.n s12.c] : List Value) = [.int .i64 x10, .int .i64 x11, .slice s12.a s12.n s12.c] ∧ I17 n18 (0) (x10) (x11) ⟨s12.a, s12.n, s12.c⟩ w16) ∧
 ∀ (n18 : Nat) (us19 : Nat → Value) (x20 : Int) (x21 : Int) (x22 : Int) (s23 : Sl) (w24 : World), I17 n18 x20 x21 x22 s23 w24 →
 Br (decide ((x20 : Int) < ((a2.n : Nat) : Int)))
 (Br (decide ((x20 : Int) < 6))
 (InB a2.a x20 a2.n ∧ ∃ (x26 : Int) (x27 : Int) (x28 : Int) (x29 : Int) (x30 : Int) (x31 : Int) (x32 : Int) (x33 : Int), LoadL w24.drew (padd a2.a ((x20 : Int).toNat * 8)) 0 [.int .i64 x26, .int .i64 x27, .int .i64 x28, .int .i64 x29, .int .i64 x30, .int .i64 x31, .int .i64 x32, .int .i64 x33] ∧
 (Calls Tryd.prog 26 #[.pointer p6, .agg #[.int .i64 x21, .int .i64 x22, .slice s23.a s23.n s23.c], .agg #[.int .i64 x26, .int .i64 x27, .int .i64 x28, .int .i64 x29, .int .i64 x30, .int .i64 x31, .int .i64 x32, .int .i64 x33]] w24.drew (fun e w34 => ∃ (x35 : Int) (x36 : Int) (s37 : Sl) (b38 : Bool), e = .returned (.tuple #[.agg #[.int .i64 x35, .int .i64 x36, .slice s37.a s37.n s37.c], .bool b38]) ∧ w34.heap[w.heap.size]? = w24.drew.heap[w.heap.size]? ∧ w34.heap[w9.heap.size]? = w24.drew.heap[w9.heap.size]? ∧ w34.heap[w14.heap.size]? = w24.drew.heap[w14.heap.size]? ∧ 
 ∀ w39 : World, w39 = w34.alloc (.cells #[.int .i64 0, .int .i64 0, .slice none 0 0] 38) →
 ∀ w40 : World, w40 = w39.setRow w34.heap.size #[.int .i64 x35, .int .i64 x36, .slice s37.a s37.n s37.c] →
 ∀ w41 : World, w41 = w40.setRow w9.heap.size #[.int .i64 x35, .int .i64 x36, .slice s37.a s37.n s37.c] →
 Br (!b38)
 (R (.returned (.bool false)) w41)
 (∃ n25, n25 < n18 ∧ ([.int .i64 x2, .int .i64 x3] : List Value) = [.int .i64 x2, .int .i64 x3] ∧ ([.int .i64 x10, .int .i64 x11, .slice s12.a s12.n s12.c] : List Value) = [.int .i64 x10, .int .i64 x11, .slice s12.a s12.n s12.c] ∧ I17 n25 ((IntKind.wrap .i64 (x20 + 1))) (x35) (x36) ⟨s37.a, s37.n, s37.c⟩ w41))) ∧ (∀ w42 : World, w42 = w24.drew.alloc (.cells #[.int .i64 0, .int .i64 0, .slice none 0 0] 38) →
 Calls Tryd.prog 26 #[.pointer p6, .agg #[.int .i64 x21, .int .i64 x22, .slice s23.a s23.n s23.c], .agg #[.int .i64 x26, .int .i64 x27, .int .i64 x28, .int .i64 x29, .int .i64 x30, .int .i64 x31, .int .i64 x32, .int .i64 x33]] w42 (fun e w43 => ∃ (x44 : Int) (x45 : Int) (s46 : Sl) (b47 : Bool), e = .returned (.tuple #[.agg #[.int .i64 x44, .int .i64 x45, .slice s46.a s46.n s46.c], .bool b47]) ∧ w43.heap[w.heap.size]? = w42.heap[w.heap.size]? ∧ w43.heap[w9.heap.size]? = w42.heap[w9.heap.size]? ∧ w43.heap[w14.heap.size]? = w42.heap[w14.heap.size]? ∧ w43.heap[w24.drew.heap.size]? = w42.heap[w24.drew.heap.size]? ∧ 
 ∀ w48 : World, w48 = w43.setRow w24.drew.heap.size #[.int .i64 x44, .int .i64 x45, .slice s46.a s46.n s46.c] →
 ∀ w49 : World, w49 = w48.setRow w9.heap.size #[.int .i64 x44, .int .i64 x45, .slice s46.a s46.n s46.c] →
 Br (!b47)
 (R (.returned (.bool false)) w49)
 (∃ n25, n25 < n18 ∧ ([.int .i64 x2, .int .i64 x3] : List Value) = [.int .i64 x2, .int .i64 x3] ∧ ([.int .i64 x10, .int .i64 x11, .slice s12.a s12.n s12.c] : List Value) = [.int .i64 x10, .int .i64 x11, .slice s12.a s12.n s12.c] ∧ I17 n25 ((IntKind.wrap .i64 (x20 + 1))) (x44) (x45) ⟨s46.a, s46.n, s46.c⟩ w49))))
 (Calls Tryd.prog 28 #[.pointer p6, .int .i64 a3, .int .i64 a4] w24.drew (fun e w50 => ∃ (x51 : Int), e = .returned (.int .i64 x51) ∧ w50.heap[w.heap.size]? = w24.drew.heap[w.heap.size]? ∧ w50.heap[w9.heap.size]? = w24.drew.heap[w9.heap.size]? ∧ w50.heap[w14.heap.size]? = w24.drew.heap[w14.heap.size]? ∧ 
 LoadL w50 (some ⟨w9.heap.size, 0, none⟩) 0 [.int .i64 x21, .int .i64 x22, .slice s23.a s23.n s23.c] ∧ Calls Tryd.prog 29 #[.agg #[.int .i64 x21, .int .i64 x22, .slice s23.a s23.n s23.c], .int .i64 a3, .int .i64 a4] w50 (fun e w52 => ∃ (x53 : Int), e = .returned (.int .i64 x53) ∧ w52.heap[w.heap.size]? = w50.heap[w.heap.size]? ∧ w52.heap[w9.heap.size]? = w50.heap[w9.heap.size]? ∧ w52.heap[w14.heap.size]? = w50.heap[w14.heap.size]? ∧ 
 Br ((x51 : Int) == x53)
 (Calls Tryd.prog 28 #[.pointer p8, .int .i64 a3, .int .i64 a4] w52 (fun e w54 => ∃ (x55 : Int), e = .returned (.int .i64 x55) ∧ w54.heap[w.heap.size]? = w52.heap[w.heap.size]? ∧ w54.heap[w9.heap.size]? = w52.heap[w9.heap.size]? ∧ w54.heap[w14.heap.size]? = w52.heap[w14.heap.size]? ∧ 
 LoadL w54 (some ⟨w14.heap.size, 0, none⟩) 0 [.int .i64 x10, .int .i64 x11, .slice s12.a s12.n s12.c] ∧ Calls Tryd.prog 29 #[.agg #[.int .i64 x10, .int .i64 x11, .slice s12.a s12.n s12.c], .int .i64 a3, .int .i64 a4] w54 (fun e w56 => ∃ (x57 : Int), e = .returned (.int .i64 x57) ∧ w56.heap[w.heap.size]? = w54.heap[w.heap.size]? ∧ w56.heap[w9.heap.size]? = w54.heap[w9.heap.size]? ∧ w56.heap[w14.heap.size]? = w54.heap[w14.heap.size]? ∧ 
 Br ((x55 : Int) == x57)
 (Calls Tryd.prog 22 #[.pointer p8] w56 (fun e w58 => ∃ (s59 : Sl), e = .returned (.slice s59.a s59.n s59.c) ∧ w58.heap[w.heap.size]? = w56.heap[w.heap.size]? ∧ w58.heap[w9.heap.size]? = w56.heap[w9.heap.size]? ∧ w58.heap[w14.heap.size]? = w56.heap[w14.heap.size]? ∧ 
 LoadL w58 (some ⟨w14.heap.size, 2, none⟩) 0 [.slice s12.a s12.n s12.c] ∧ Calls Tryd.prog 21 #[.slice s59.a s59.n s59.c, .slice s12.a s12.n s12.c] w58 (fun e w60 => ∃ (b61 : Bool), e = .returned (.bool b61) ∧ w60.heap[w.heap.size]? = w58.heap[w.heap.size]? ∧ w60.heap[w9.heap.size]? = w58.heap[w9.heap.size]? ∧ w60.heap[w14.heap.size]? = w58.heap[w14.heap.size]? ∧ 
 Br b61
 (Calls Tryd.prog 14 #[.pointer p6, .pointer p8] w60 (fun e w62 => ∃ (b63 : Bool), e = .returned (.bool b63) ∧ w62.heap[w.heap.size]? = w60.heap[w.heap.size]? ∧ w62.heap[w9.heap.size]? = w60.heap[w9.heap.size]? ∧ w62.heap[w14.heap.size]? = w60.heap[w14.heap.size]? ∧ 
 LoadL w62 (some ⟨w14.heap.size, 2, none⟩) 0 [.slice s12.a s12.n s12.c] ∧ LoadL w62 (some ⟨w9.heap.size, 2, none⟩) 0 [.slice s23.a s23.n s23.c] ∧ Calls Tryd.prog 21 #[.slice s23.a s23.n s23.c, .slice s12.a s12.n s12.c] w62 (fun e w64 => ∃ (b65 : Bool), e = .returned (.bool b65) ∧ w64.heap[w.heap.size]? = w62.heap[w.heap.size]? ∧ w64.heap[w9.heap.size]? = w62.heap[w9.heap.size]? ∧ w64.heap[w14.heap.size]? = w62.heap[w14.heap.size]? ∧ 
 Br (b63 == b65)
 (Calls Tryd.prog 15 #[] w64 (fun e w66 => ∃ (b67 : Bool), e = .returned (.bool b67) ∧ w66.heap[w.heap.size]? = w64.heap[w.heap.size]? ∧ w66.heap[w9.heap.size]? = w64.heap[w9.heap.size]? ∧ w66.heap[w14.heap.size]? = w64.heap[w14.heap.size]? ∧ 
 R (.returned (.bool b67)) w66))
 (R (.returned (.bool false)) w64))))
 (R (.returned (.bool false)) w60))))
 (R (.returned (.bool false)) w56))))
 (R (.returned (.bool false)) w52)))))
 (Calls Tryd.prog 28 #[.pointer p6, .int .i64 a3, .int .i64 a4] w24.drew (fun e w68 => ∃ (x69 : Int), e = .returned (.int .i64 x69) ∧ w68.heap[w.heap.size]? = w24.drew.heap[w.heap.size]? ∧ w68.heap[w9.heap.size]? = w24.drew.heap[w9.heap.size]? ∧ w68.heap[w14.heap.size]? = w24.drew.heap[w14.heap.size]? ∧ 
 LoadL w68 (some ⟨w9.heap.size, 0, none⟩) 0 [.int .i64 x21, .int .i64 x22, .slice s23.a s23.n s23.c] ∧ Calls Tryd.prog 29 #[.agg #[.int .i64 x21, .int .i64 x22, .slice s23.a s23.n s23.c], .int .i64 a3, .int .i64 a4] w68 (fun e w70 => ∃ (x71 : Int), e = .returned (.int .i64 x71) ∧ w70.heap[w.heap.size]? = w68.heap[w.heap.size]? ∧ w70.heap[w9.heap.size]? = w68.heap[w9.heap.size]? ∧ w70.heap[w14.heap.size]? = w68.heap[w14.heap.size]? ∧ 
 Br ((x69 : Int) == x71)
 (Calls Tryd.prog 28 #[.pointer p8, .int .i64 a3, .int .i64 a4] w70 (fun e w72 => ∃ (x73 : Int), e = .returned (.int .i64 x73) ∧ w72.heap[w.heap.size]? = w70.heap[w.heap.size]? ∧ w72.heap[w9.heap.size]? = w70.heap[w9.heap.size]? ∧ w72.heap[w14.heap.size]? = w70.heap[w14.heap.size]? ∧ 
 LoadL w72 (some ⟨w14.heap.size, 0, none⟩) 0 [.int .i64 x10, .int .i64 x11, .slice s12.a s12.n s12.c] ∧ Calls Tryd.prog 29 #[.agg #[.int .i64 x10, .int .i64 x11, .slice s12.a s12.n s12.c], .int .i64 a3, .int .i64 a4] w72 (fun e w74 => ∃ (x75 : Int), e = .returned (.int .i64 x75) ∧ w74.heap[w.heap.size]? = w72.heap[w.heap.size]? ∧ w74.heap[w9.heap.size]? = w72.heap[w9.heap.size]? ∧ w74.heap[w14.heap.size]? = w72.heap[w14.heap.size]? ∧ 
 Br ((x73 : Int) == x75)
 (Calls Tryd.prog 22 #[.pointer p8] w74 (fun e w76 => ∃ (s77 : Sl), e = .returned (.slice s77.a s77.n s77.c) ∧ w76.heap[w.heap.size]? = w74.heap[w.heap.size]? ∧ w76.heap[w9.heap.size]? = w74.heap[w9.heap.size]? ∧ w76.heap[w14.heap.size]? = w74.heap[w14.heap.size]? ∧ 
 LoadL w76 (some ⟨w14.heap.size, 2, none⟩) 0 [.slice s12.a s12.n s12.c] ∧ Calls Tryd.prog 21 #[.slice s77.a s77.n s77.c, .slice s12.a s12.n s12.c] w76 (fun e w78 => ∃ (b79 : Bool), e = .returned (.bool b79) ∧ w78.heap[w.heap.size]? = w76.heap[w.heap.size]? ∧ w78.heap[w9.heap.size]? = w76.heap[w9.heap.size]? ∧ w78.heap[w14.heap.size]? = w76.heap[w14.heap.size]? ∧ 
 Br b79
 (Calls Tryd.prog 14 #[.pointer p6, .pointer p8] w78 (fun e w80 => ∃ (b81 : Bool), e = .returned (.bool b81) ∧ w80.heap[w.heap.size]? = w78.heap[w.heap.size]? ∧ w80.heap[w9.heap.size]? = w78.heap[w9.heap.size]? ∧ w80.heap[w14.heap.size]? = w78.heap[w14.heap.size]? ∧ 
 LoadL w80 (some ⟨w14.heap.size, 2, none⟩) 0 [.slice s12.a s12.n s12.c] ∧ LoadL w80 (some ⟨w9.heap.size, 2, none⟩) 0 [.slice s23.a s23.n s23.c] ∧ Calls Tryd.prog 21 #[.slice s23.a s23.n s23.c, .slice s12.a s12.n s12.c] w80 (fun e w82 => ∃ (b83 : Bool), e = .returned (.bool b83) ∧ w82.heap[w.heap.size]? = w80.heap[w.heap.size]? ∧ w82.heap[w9.heap.size]? = w80.heap[w9.heap.size]? ∧ w82.heap[w14.heap.size]? = w80.heap[w14.heap.size]? ∧ 
 Br (b81 == b83)
 (Calls Tryd.prog 15 #[] w82 (fun e w84 => ∃ (b85 : Bool), e = .returned (.bool b85) ∧ w84.heap[w.heap.size]? = w82.heap[w.heap.size]? ∧ w84.heap[w9.heap.size]? = w82.heap[w9.heap.size]? ∧ w84.heap[w14.heap.size]? = w82.heap[w14.heap.size]? ∧ 
 R (.returned (.bool b85)) w84))
 (R (.returned (.bool false)) w82))))
 (R (.returned (.bool false)) w78))))
 (R (.returned (.bool false)) w74))))
 (R (.returned (.bool false)) w70))))))))))
theorem law11_ChunkTops.vc {a0 a1_0 a1_1 a2 a3 a4 w} {R : Ending → World → Prop} (h : law11_ChunkTops.pre a0 a1_0 a1_1 a2 a3 a4 w R) : Calls Tryd.prog n_law11_ChunkTops #[.int .i64 a0, .agg #[.int .i64 a1_0, .int .i64 a1_1], .slice a2.a a2.n a2.c, .int .i64 a3, .int .i64 a4] w R :=
  calls_of_eq (an := ⟨[(11, ⟨[(15, .int .i64)], [(1, [.int .i64, .int .i64, .slice])], []⟩)], [], []⟩) (args := [.int .i64 a0, .agg #[.int .i64 a1_0, .int .i64 a1_1], .slice a2.a a2.n a2.c, .int .i64 a3, .int .i64 a4]) Tryd.noNG Tryd.mixed Tryd.func7 h (by kernel_rfl)


end Go.Proofs.YtfipllblcnahdaaDoor
