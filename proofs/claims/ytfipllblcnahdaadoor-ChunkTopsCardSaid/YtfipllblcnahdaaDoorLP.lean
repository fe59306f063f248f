import Derived.Test.YtfipllblcnahdaaDoorG
set_option linter.all false
namespace Go.Proofs.YtfipllblcnahdaaDoor
open Go Go.Vc Go.RowKit Go.Proofs
set_option maxRecDepth 100000
set_option maxHeartbeats 8000000
set_option linter.unusedVariables false
abbrev n_law11_ChunkPlays : FuncId := 6
/- breccia/breccialaw11.ChunkPlays  -/
def law11_ChunkPlays.pre (a0 : Int) (a1_0 : Int) (a1_1 : Int) (a2 : Sl) (w : World) (R : Ending → World → Prop) : Prop :=
 ∀ w0 : World, w0 = w.alloc (.cells #[.int .i64 a1_0, .int .i64 a1_1] 27) →
 Calls Tryd.prog 16 #[.agg #[.int .i64 a1_0, .int .i64 a1_1]] w0 (fun e w1 => ∃ (x2 : Int) (x3 : Int), e = .returned (.agg #[.int .i64 x2, .int .i64 x3]) ∧ w1.heap[w.heap.size]? = w0.heap[w.heap.size]? ∧ 
 ∀ w4 : World, w4 = w1.setRow w.heap.size #[.int .i64 x2, .int .i64 x3] →
 Calls Tryd.prog 10 #[.int .i64 a0, .agg #[.int .i64 x2, .int .i64 x3]] w4 (fun e w5 => ∃ (p6 : Option Addr), e = .returned (.pointer p6) ∧ w5.heap[w.heap.size]? = w4.heap[w.heap.size]? ∧ 
 Br (p6).isNone
 (R (.returned (.bool false)) w5)
 (Calls Tryd.prog 17 #[.int .i64 a0, .agg #[.int .i64 x2, .int .i64 x3]] w5 (fun e w7 => ∃ (x8 : Int) (x9 : Int) (s10 : Sl), e = .returned (.agg #[.int .i64 x8, .int .i64 x9, .slice s10.a s10.n s10.c]) ∧ w7.heap[w.heap.size]? = w5.heap[w.heap.size]? ∧ 
 ∀ w11 : World, w11 = w7.alloc (.cells #[.int .i64 0, .int .i64 0, .slice none 0 0] 38) →
 ∀ w12 : World, w12 = w11.setRow w7.heap.size #[.int .i64 x8, .int .i64 x9, .slice s10.a s10.n s10.c] →
 ∃ I13 : Nat → Int → Int → Int → Sl → World → Prop,
 (∃ n14, ([.int .i64 x2, .int .i64 x3] : List Value) = [.int .i64 x2, .int .i64 x3] ∧ I13 n14 (0) (x8) (x9) ⟨s10.a, s10.n, s10.c⟩ w12) ∧
 ∀ (n14 : Nat) (us15 : Nat → Value) (x16 : Int) (x17 : Int) (x18 : Int) (s19 : Sl) (w20 : World), I13 n14 x16 x17 x18 s19 w20 →
 Br (decide ((x16 : Int) < ((a2.n : Nat) : Int)))
 (Br (decide ((x16 : Int) < 12))
 (InB a2.a x16 a2.n ∧ ∃ (x22 : Int) (x23 : Int) (x24 : Int) (x25 : Int) (x26 : Int) (x27 : Int) (x28 : Int) (x29 : Int), LoadL w20.drew (padd a2.a ((x16 : Int).toNat * 8)) 0 [.int .i64 x22, .int .i64 x23, .int .i64 x24, .int .i64 x25, .int .i64 x26, .int .i64 x27, .int .i64 x28, .int .i64 x29] ∧
 (Calls Tryd.prog 26 #[.pointer p6, .agg #[.int .i64 x17, .int .i64 x18, .slice s19.a s19.n s19.c], .agg #[.int .i64 x22, .int .i64 x23, .int .i64 x24, .int .i64 x25, .int .i64 x26, .int .i64 x27, .int .i64 x28, .int .i64 x29]] w20.drew (fun e w30 => ∃ (x31 : Int) (x32 : Int) (s33 : Sl) (b34 : Bool), e = .returned (.tuple #[.agg #[.int .i64 x31, .int .i64 x32, .slice s33.a s33.n s33.c], .bool b34]) ∧ w30.heap[w.heap.size]? = w20.drew.heap[w.heap.size]? ∧ w30.heap[w7.heap.size]? = w20.drew.heap[w7.heap.size]? ∧ 
 ∀ w35 : World, w35 = w30.alloc (.cells #[.int .i64 0, .int .i64 0, .slice none 0 0] 38) →
 ∀ w36 : World, w36 = w35.setRow w30.heap.size #[.int .i64 x31, .int .i64 x32, .slice s33.a s33.n s33.c] →
 ∀ w37 : World, w37 = w36.setRow w7.heap.size #[.int .i64 x31, .int .i64 x32, .slice s33.a s33.n s33.c] →
 Br (!b34)
 (R (.returned (.bool false)) w37.drew)
 (Calls Tryd.prog 22 #[.pointer p6] w37.drew (fun e w38 => ∃ (s39 : Sl), e = .returned (.slice s39.a s39.n s39.c) ∧ w38.heap[w.heap.size]? = w37.drew.heap[w.heap.size]? ∧ w38.heap[w7.heap.size]? = w37.drew.heap[w7.heap.size]? ∧ w38.heap[w30.heap.size]? = w37.drew.heap[w30.heap.size]? ∧ 
 LoadL w38 (some ⟨w7.heap.size, 2, none⟩) 0 [.slice s33.a s33.n s33.c] ∧ Calls Tryd.prog 21 #[.slice s39.a s39.n s39.c, .slice s33.a s33.n s33.c] w38 (fun e w40 => ∃ (b41 : Bool), e = .returned (.bool b41) ∧ w40.heap[w.heap.size]? = w38.heap[w.heap.size]? ∧ w40.heap[w7.heap.size]? = w38.heap[w7.heap.size]? ∧ w40.heap[w30.heap.size]? = w38.heap[w30.heap.size]? ∧ 
 Br (!b41)
 (R (.returned (.bool false)) w40)
 (∃ n21, n21 < n14 ∧ ([.int .i64 x2, .int .i64 x3] : List Value) = [.int .i64 x2, .int .i64 x3] ∧ I13 n21 ((IntKind.wrap .i64 (x16 + 1))) (x31) (x32) ⟨s33.a, s33.n, s33.c⟩ w40)))))) ∧ (∀ w42 : World, w42 = w20.drew.alloc (.cells #[.int .i64 0, .int .i64 0, .slice none 0 0] 38) →
 Calls Tryd.prog 26 #[.pointer p6, .agg #[.int .i64 x17, .int .i64 x18, .slice s19.a s19.n s19.c], .agg #[.int .i64 x22, .int .i64 x23, .int .i64 x24, .int .i64 x25, .int .i64 x26, .int .i64 x27, .int .i64 x28, .int .i64 x29]] w42 (fun e w43 => ∃ (x44 : Int) (x45 : Int) (s46 : Sl) (b47 : Bool), e = .returned (.tuple #[.agg #[.int .i64 x44, .int .i64 x45, .slice s46.a s46.n s46.c], .bool b47]) ∧ w43.heap[w.heap.size]? = w42.heap[w.heap.size]? ∧ w43.heap[w7.heap.size]? = w42.heap[w7.heap.size]? ∧ w43.heap[w20.drew.heap.size]? = w42.heap[w20.drew.heap.size]? ∧ 
 ∀ w48 : World, w48 = w43.setRow w20.drew.heap.size #[.int .i64 x44, .int .i64 x45, .slice s46.a s46.n s46.c] →
 ∀ w49 : World, w49 = w48.setRow w7.heap.size #[.int .i64 x44, .int .i64 x45, .slice s46.a s46.n s46.c] →
 Br (!b47)
 (R (.returned (.bool false)) w49.drew)
 (Calls Tryd.prog 22 #[.pointer p6] w49.drew (fun e w50 => ∃ (s51 : Sl), e = .returned (.slice s51.a s51.n s51.c) ∧ w50.heap[w.heap.size]? = w49.drew.heap[w.heap.size]? ∧ w50.heap[w7.heap.size]? = w49.drew.heap[w7.heap.size]? ∧ w50.heap[w20.drew.heap.size]? = w49.drew.heap[w20.drew.heap.size]? ∧ 
 LoadL w50 (some ⟨w7.heap.size, 2, none⟩) 0 [.slice s46.a s46.n s46.c] ∧ Calls Tryd.prog 21 #[.slice s51.a s51.n s51.c, .slice s46.a s46.n s46.c] w50 (fun e w52 => ∃ (b53 : Bool), e = .returned (.bool b53) ∧ w52.heap[w.heap.size]? = w50.heap[w.heap.size]? ∧ w52.heap[w7.heap.size]? = w50.heap[w7.heap.size]? ∧ w52.heap[w20.drew.heap.size]? = w50.heap[w20.drew.heap.size]? ∧ 
 Br (!b53)
 (R (.returned (.bool false)) w52)
 (∃ n21, n21 < n14 ∧ ([.int .i64 x2, .int .i64 x3] : List Value) = [.int .i64 x2, .int .i64 x3] ∧ I13 n21 ((IntKind.wrap .i64 (x16 + 1))) (x44) (x45) ⟨s46.a, s46.n, s46.c⟩ w52)))))))
 (AndL (nnC p6) (AndL (nnC p6) (∃ (x54 : Int) (x55 : Int), LoadL w20.drew (padd p6 0) 0 [.int .i64 x54, .int .i64 x55] ∧
 Calls Tryd.prog 25 #[.agg #[.int .i64 x54, .int .i64 x55]] w20.drew (fun e w56 => ∃ (x57 : Int) (x58 : Int), e = .returned (.agg #[.int .i64 x57, .int .i64 x58]) ∧ w56.heap[w.heap.size]? = w20.drew.heap[w.heap.size]? ∧ w56.heap[w7.heap.size]? = w20.drew.heap[w7.heap.size]? ∧ 
 LoadL w56 (some ⟨w.heap.size, 0, none⟩) 0 [.int .i64 x2, .int .i64 x3] ∧ Br (((x57 : Int) == x2) && ((x58 : Int) == x3))
 (Calls Tryd.prog 15 #[] w56 (fun e w59 => ∃ (b60 : Bool), e = .returned (.bool b60) ∧ w59.heap[w.heap.size]? = w56.heap[w.heap.size]? ∧ w59.heap[w7.heap.size]? = w56.heap[w7.heap.size]? ∧ 
 LoadL w59 (some ⟨w.heap.size, 0, none⟩) 0 [.int .i64 x2, .int .i64 x3] ∧ R (.returned (.bool b60)) w59))
 (R (.returned (.bool false)) w56))))))
 (AndL (nnC p6) (AndL (nnC p6) (∃ (x61 : Int) (x62 : Int), LoadL w20.drew (padd p6 0) 0 [.int .i64 x61, .int .i64 x62] ∧
 Calls Tryd.prog 25 #[.agg #[.int .i64 x61, .int .i64 x62]] w20.drew (fun e w63 => ∃ (x64 : Int) (x65 : Int), e = .returned (.agg #[.int .i64 x64, .int .i64 x65]) ∧ w63.heap[w.heap.size]? = w20.drew.heap[w.heap.size]? ∧ w63.heap[w7.heap.size]? = w20.drew.heap[w7.heap.size]? ∧ 
 LoadL w63 (some ⟨w.heap.size, 0, none⟩) 0 [.int .i64 x2, .int .i64 x3] ∧ Br (((x64 : Int) == x2) && ((x65 : Int) == x3))
 (Calls Tryd.prog 15 #[] w63 (fun e w66 => ∃ (b67 : Bool), e = .returned (.bool b67) ∧ w66.heap[w.heap.size]? = w63.heap[w.heap.size]? ∧ w66.heap[w7.heap.size]? = w63.heap[w7.heap.size]? ∧ 
 LoadL w66 (some ⟨w.heap.size, 0, none⟩) 0 [.int .i64 x2, .int .i64 x3] ∧ R (.returned (.bool b67)) w66))
 (R (.returned (.bool false)) w63)))))))))
theorem law11_ChunkPlays.vc {a0 a1_0 a1_1 a2 w} {R : Ending → World → Prop} (h : law11_ChunkPlays.pre a0 a1_0 a1_1 a2 w R) : Calls Tryd.prog n_law11_ChunkPlays #[.int .i64 a0, .agg #[.int .i64 a1_0, .int .i64 a1_1], .slice a2.a a2.n a2.c] w R :=
  calls_of_eq (an := ⟨[(7, ⟨[(9, .int .i64)], [(1, [.int .i64, .int .i64, .slice])], []⟩)], [], []⟩) (args := [.int .i64 a0, .agg #[.int .i64 a1_0, .int .i64 a1_1], .slice a2.a a2.n a2.c]) Tryd.noNG Tryd.mixed Tryd.func6 h (by kernel_rfl)


end Go.Proofs.YtfipllblcnahdaaDoor
