import Derived.Test.YtfipllblcnahdaaDoorG
set_option linter.all false
namespace Go.Proofs.YtfipllblcnahdaaDoor
open Go Go.Vc Go.RowKit Go.Proofs
set_option maxRecDepth 100000
set_option maxHeartbeats 8000000
set_option linter.unusedVariables false
abbrev n_law11_ChunkNew : FuncId := 5
/- breccia/breccialaw11.ChunkNew  -/
def law11_ChunkNew.pre (a0 : Sl) (a1 : Int) (w : World) (R : Ending → World → Prop) : Prop :=
 Br (decide ((((a0.n : Nat) : Int) : Int) > 12))
 ((0 : Int) ≤ 12 ∧ 12 ≤ ((a0.c : Nat) : Int) ∧ Calls Tryd.prog 17 #[.int .i64 a1, .agg #[.int .i64 0, .int .i64 0]] w (fun e w0 => ∃ (x1 : Int) (x2 : Int) (s3 : Sl), e = .returned (.agg #[.int .i64 x1, .int .i64 x2, .slice s3.a s3.n s3.c]) ∧ 
 ∀ w4 : World, w4 = w0.alloc (.cells #[.slice (slBase a0.a (0) (a0.c) 2) ((12 : Int).toNat - 0) (a0.c - 0), .slice s3.a s3.n s3.c] 36) →
 ∃ I5 : Nat → Int → World → Prop,
 (∃ n6, ([.slice (slBase a0.a (0) (a0.c) 2) ((12 : Int).toNat - 0) (a0.c - 0), .slice s3.a s3.n s3.c] : List Value) = [.slice (slBase a0.a (0) (a0.c) 2) ((12 : Int).toNat - 0) (a0.c - 0), .slice s3.a s3.n s3.c] ∧ I5 n6 (0) w4) ∧
 ∀ (n6 : Nat) (us7 : Nat → Value) (x8 : Int) (w9 : World), I5 n6 x8 w9 →
 Br (decide ((x8 : Int) < 2))
 (InB (some ⟨w0.heap.size, 0, none⟩) x8 2 ∧ ∃ (s11 : Sl), ld w9 (padd (some ⟨w0.heap.size, 0, none⟩) ((x8 : Int).toNat * 1)) = some (.slice s11.a s11.n s11.c) ∧
 Calls Tryd.prog 23 #[.agg #[.int .i64 1, .int .i64 2], .slice s11.a s11.n s11.c] w9 (fun e w12 => ∃ (p13 : Option Addr) (x14 : Int), e = .returned (.tuple #[.pointer p13, .int .i64 x14]) ∧ w12.heap[w0.heap.size]? = w9.heap[w0.heap.size]? ∧ 
 InB (some ⟨w0.heap.size, 0, none⟩) x8 2 ∧ ∃ (s15 : Sl), ld w12 (padd (some ⟨w0.heap.size, 0, none⟩) ((x8 : Int).toNat * 1)) = some (.slice s15.a s15.n s15.c) ∧
 Calls Tryd.prog 24 #[.slice s15.a s15.n s15.c, .int .i64 8192] w12 (fun e w16 => ∃ (b17 : Bool), e = .returned (.bool b17) ∧ w16.heap[w0.heap.size]? = w12.heap[w0.heap.size]? ∧ 
 Br (!((!(p13).isNone) == b17))
 (R (.returned (.bool false)) w16)
 (Br (!(((x14 : Int) == 0) == b17))
 (R (.returned (.bool false)) w16)
 (Br (!b17)
 (Br ((x14 : Int) != 1)
 (R (.returned (.bool false)) w16)
 (Br (!(p13).isNone)
 (InB (some ⟨w0.heap.size, 0, none⟩) x8 2 ∧ ∃ (s18 : Sl), ld w16.drew (padd (some ⟨w0.heap.size, 0, none⟩) ((x8 : Int).toNat * 1)) = some (.slice s18.a s18.n s18.c) ∧
 Calls Tryd.prog 22 #[.pointer p13] w16.drew (fun e w19 => ∃ (s20 : Sl), e = .returned (.slice s20.a s20.n s20.c) ∧ w19.heap[w0.heap.size]? = w16.drew.heap[w0.heap.size]? ∧ 
 LoadL w19 (padd (some ⟨w0.heap.size, 0, none⟩) ((x8 : Int).toNat * 1)) 0 [.slice s18.a s18.n s18.c] ∧ Calls Tryd.prog 21 #[.slice s20.a s20.n s20.c, .slice s18.a s18.n s18.c] w19 (fun e w21 => ∃ (b22 : Bool), e = .returned (.bool b22) ∧ w21.heap[w0.heap.size]? = w19.heap[w0.heap.size]? ∧ 
 Br (!b22)
 (R (.returned (.bool false)) w21)
 (AndL (nnC p13) (AndL (nnC p13) (∃ (x23 : Int) (x24 : Int), LoadL w21 (padd p13 0) 0 [.int .i64 x23, .int .i64 x24] ∧
 Calls Tryd.prog 25 #[.agg #[.int .i64 x23, .int .i64 x24]] w21 (fun e w25 => ∃ (x26 : Int) (x27 : Int), e = .returned (.agg #[.int .i64 x26, .int .i64 x27]) ∧ w25.heap[w0.heap.size]? = w21.heap[w0.heap.size]? ∧ 
 Br ((x26 : Int) != 1)
 (R (.returned (.bool false)) w25)
 (AndL (nnC p13) (AndL (nnC p13) (∃ (x28 : Int) (x29 : Int), LoadL w25 (padd p13 0) 0 [.int .i64 x28, .int .i64 x29] ∧
 Calls Tryd.prog 25 #[.agg #[.int .i64 x28, .int .i64 x29]] w25 (fun e w30 => ∃ (x31 : Int) (x32 : Int), e = .returned (.agg #[.int .i64 x31, .int .i64 x32]) ∧ w30.heap[w0.heap.size]? = w25.heap[w0.heap.size]? ∧ 
 Br ((x32 : Int) != 2)
 (R (.returned (.bool false)) w30)
 (∃ n10, n10 < n6 ∧ ([.slice (slBase a0.a (0) (a0.c) 2) ((12 : Int).toNat - 0) (a0.c - 0), .slice s3.a s3.n s3.c] : List Value) = [.slice (slBase a0.a (0) (a0.c) 2) ((12 : Int).toNat - 0) (a0.c - 0), .slice s3.a s3.n s3.c] ∧ I5 n10 ((IntKind.wrap .i64 (x8 + 1))) w30))))))))))))
 (∃ n10, n10 < n6 ∧ ([.slice (slBase a0.a (0) (a0.c) 2) ((12 : Int).toNat - 0) (a0.c - 0), .slice s3.a s3.n s3.c] : List Value) = [.slice (slBase a0.a (0) (a0.c) 2) ((12 : Int).toNat - 0) (a0.c - 0), .slice s3.a s3.n s3.c] ∧ I5 n10 ((IntKind.wrap .i64 (x8 + 1))) w16.drew)))
 (Br (!(p13).isNone)
 (InB (some ⟨w0.heap.size, 0, none⟩) x8 2 ∧ ∃ (s33 : Sl), ld w16.drew (padd (some ⟨w0.heap.size, 0, none⟩) ((x8 : Int).toNat * 1)) = some (.slice s33.a s33.n s33.c) ∧
 Calls Tryd.prog 22 #[.pointer p13] w16.drew (fun e w34 => ∃ (s35 : Sl), e = .returned (.slice s35.a s35.n s35.c) ∧ w34.heap[w0.heap.size]? = w16.drew.heap[w0.heap.size]? ∧ 
 LoadL w34 (padd (some ⟨w0.heap.size, 0, none⟩) ((x8 : Int).toNat * 1)) 0 [.slice s33.a s33.n s33.c] ∧ Calls Tryd.prog 21 #[.slice s35.a s35.n s35.c, .slice s33.a s33.n s33.c] w34 (fun e w36 => ∃ (b37 : Bool), e = .returned (.bool b37) ∧ w36.heap[w0.heap.size]? = w34.heap[w0.heap.size]? ∧ 
 Br (!b37)
 (R (.returned (.bool false)) w36)
 (AndL (nnC p13) (AndL (nnC p13) (∃ (x38 : Int) (x39 : Int), LoadL w36 (padd p13 0) 0 [.int .i64 x38, .int .i64 x39] ∧
 Calls Tryd.prog 25 #[.agg #[.int .i64 x38, .int .i64 x39]] w36 (fun e w40 => ∃ (x41 : Int) (x42 : Int), e = .returned (.agg #[.int .i64 x41, .int .i64 x42]) ∧ w40.heap[w0.heap.size]? = w36.heap[w0.heap.size]? ∧ 
 Br ((x41 : Int) != 1)
 (R (.returned (.bool false)) w40)
 (AndL (nnC p13) (AndL (nnC p13) (∃ (x43 : Int) (x44 : Int), LoadL w40 (padd p13 0) 0 [.int .i64 x43, .int .i64 x44] ∧
 Calls Tryd.prog 25 #[.agg #[.int .i64 x43, .int .i64 x44]] w40 (fun e w45 => ∃ (x46 : Int) (x47 : Int), e = .returned (.agg #[.int .i64 x46, .int .i64 x47]) ∧ w45.heap[w0.heap.size]? = w40.heap[w0.heap.size]? ∧ 
 Br ((x47 : Int) != 2)
 (R (.returned (.bool false)) w45)
 (∃ n10, n10 < n6 ∧ ([.slice (slBase a0.a (0) (a0.c) 2) ((12 : Int).toNat - 0) (a0.c - 0), .slice s3.a s3.n s3.c] : List Value) = [.slice (slBase a0.a (0) (a0.c) 2) ((12 : Int).toNat - 0) (a0.c - 0), .slice s3.a s3.n s3.c] ∧ I5 n10 ((IntKind.wrap .i64 (x8 + 1))) w45))))))))))))
 (∃ n10, n10 < n6 ∧ ([.slice (slBase a0.a (0) (a0.c) 2) ((12 : Int).toNat - 0) (a0.c - 0), .slice s3.a s3.n s3.c] : List Value) = [.slice (slBase a0.a (0) (a0.c) 2) ((12 : Int).toNat - 0) (a0.c - 0), .slice s3.a s3.n s3.c] ∧ I5 n10 ((IntKind.wrap .i64 (x8 + 1))) w16.drew)))))))
 (Calls Tryd.prog 15 #[] w9 (fun e w48 => ∃ (b49 : Bool), e = .returned (.bool b49) ∧ w48.heap[w0.heap.size]? = w9.heap[w0.heap.size]? ∧ 
 R (.returned (.bool b49)) w48))))
 (Calls Tryd.prog 17 #[.int .i64 a1, .agg #[.int .i64 0, .int .i64 0]] w (fun e w50 => ∃ (x51 : Int) (x52 : Int) (s53 : Sl), e = .returned (.agg #[.int .i64 x51, .int .i64 x52, .slice s53.a s53.n s53.c]) ∧ 
 ∀ w54 : World, w54 = w50.alloc (.cells #[.slice a0.a a0.n a0.c, .slice s53.a s53.n s53.c] 36) →
 ∃ I55 : Nat → Int → World → Prop,
 (∃ n56, ([.slice a0.a a0.n a0.c, .slice s53.a s53.n s53.c] : List Value) = [.slice a0.a a0.n a0.c, .slice s53.a s53.n s53.c] ∧ I55 n56 (0) w54) ∧
 ∀ (n56 : Nat) (us57 : Nat → Value) (x58 : Int) (w59 : World), I55 n56 x58 w59 →
 Br (decide ((x58 : Int) < 2))
 (InB (some ⟨w50.heap.size, 0, none⟩) x58 2 ∧ ∃ (s61 : Sl), ld w59 (padd (some ⟨w50.heap.size, 0, none⟩) ((x58 : Int).toNat * 1)) = some (.slice s61.a s61.n s61.c) ∧
 Calls Tryd.prog 23 #[.agg #[.int .i64 1, .int .i64 2], .slice s61.a s61.n s61.c] w59 (fun e w62 => ∃ (p63 : Option Addr) (x64 : Int), e = .returned (.tuple #[.pointer p63, .int .i64 x64]) ∧ w62.heap[w50.heap.size]? = w59.heap[w50.heap.size]? ∧ 
 InB (some ⟨w50.heap.size, 0, none⟩) x58 2 ∧ ∃ (s65 : Sl), ld w62 (padd (some ⟨w50.heap.size, 0, none⟩) ((x58 : Int).toNat * 1)) = some (.slice s65.a s65.n s65.c) ∧
 Calls Tryd.prog 24 #[.slice s65.a s65.n s65.c, .int .i64 8192] w62 (fun e w66 => ∃ (b67 : Bool), e = .returned (.bool b67) ∧ w66.heap[w50.heap.size]? = w62.heap[w50.heap.size]? ∧ 
 Br (!((!(p63).isNone) == b67))
 (R (.returned (.bool false)) w66)
 (Br (!(((x64 : Int) == 0) == b67))
 (R (.returned (.bool false)) w66)
 (Br (!b67)
 (Br ((x64 : Int) != 1)
 (R (.returned (.bool false)) w66)
 (Br (!(p63).isNone)
 (InB (some ⟨w50.heap.size, 0, none⟩) x58 2 ∧ ∃ (s68 : Sl), ld w66.drew (padd (some ⟨w50.heap.size, 0, none⟩) ((x58 : Int).toNat * 1)) = some (.slice s68.a s68.n s68.c) ∧
 Calls Tryd.prog 22 #[.pointer p63] w66.drew (fun e w69 => ∃ (s70 : Sl), e = .returned (.slice s70.a s70.n s70.c) ∧ w69.heap[w50.heap.size]? = w66.drew.heap[w50.heap.size]? ∧ 
 LoadL w69 (padd (some ⟨w50.heap.size, 0, none⟩) ((x58 : Int).toNat * 1)) 0 [.slice s68.a s68.n s68.c] ∧ Calls Tryd.prog 21 #[.slice s70.a s70.n s70.c, .slice s68.a s68.n s68.c] w69 (fun e w71 => ∃ (b72 : Bool), e = .returned (.bool b72) ∧ w71.heap[w50.heap.size]? = w69.heap[w50.heap.size]? ∧ 
 Br (!b72)
 (R (.returned (.bool false)) w71)
 (AndL (nnC p63) (AndL (nnC p63) (∃ (x73 : Int) (x74 : Int), LoadL w71 (padd p63 0) 0 [.int .i64 x73, .int .i64 x74] ∧
 Calls Tryd.prog 25 #[.agg #[.int .i64 x73, .int .i64 x74]] w71 (fun e w75 => ∃ (x76 : Int) (x77 : Int), e = .returned (.agg #[.int .i64 x76, .int .i64 x77]) ∧ w75.heap[w50.heap.size]? = w71.heap[w50.heap.size]? ∧ 
 Br ((x76 : Int) != 1)
 (R (.returned (.bool false)) w75)
 (AndL (nnC p63) (AndL (nnC p63) (∃ (x78 : Int) (x79 : Int), LoadL w75 (padd p63 0) 0 [.int .i64 x78, .int .i64 x79] ∧
 Calls Tryd.prog 25 #[.agg #[.int .i64 x78, .int .i64 x79]] w75 (fun e w80 => ∃ (x81 : Int) (x82 : Int), e = .returned (.agg #[.int .i64 x81, .int .i64 x82]) ∧ w80.heap[w50.heap.size]? = w75.heap[w50.heap.size]? ∧ 
 Br ((x82 : Int) != 2)
 (R (.returned (.bool false)) w80)
 (∃ n60, n60 < n56 ∧ ([.slice a0.a a0.n a0.c, .slice s53.a s53.n s53.c] : List Value) = [.slice a0.a a0.n a0.c, .slice s53.a s53.n s53.c] ∧ I55 n60 ((IntKind.wrap .i64 (x58 + 1))) w80))))))))))))
 (∃ n60, n60 < n56 ∧ ([.slice a0.a a0.n a0.c, .slice s53.a s53.n s53.c] : List Value) = [.slice a0.a a0.n a0.c, .slice s53.a s53.n s53.c] ∧ I55 n60 ((IntKind.wrap .i64 (x58 + 1))) w66.drew)))
 (Br (!(p63).isNone)
 (InB (some ⟨w50.heap.size, 0, none⟩) x58 2 ∧ ∃ (s83 : Sl), ld w66.drew (padd (some ⟨w50.heap.size, 0, none⟩) ((x58 : Int).toNat * 1)) = some (.slice s83.a s83.n s83.c) ∧
 Calls Tryd.prog 22 #[.pointer p63] w66.drew (fun e w84 => ∃ (s85 : Sl), e = .returned (.slice s85.a s85.n s85.c) ∧ w84.heap[w50.heap.size]? = w66.drew.heap[w50.heap.size]? ∧ 
 LoadL w84 (padd (some ⟨w50.heap.size, 0, none⟩) ((x58 : Int).toNat * 1)) 0 [.slice s83.a s83.n s83.c] ∧ Calls Tryd.prog 21 #[.slice s85.a s85.n s85.c, .slice s83.a s83.n s83.c] w84 (fun e w86 => ∃ (b87 : Bool), e = .returned (.bool b87) ∧ w86.heap[w50.heap.size]? = w84.heap[w50.heap.size]? ∧ 
 Br (!b87)
 (R (.returned (.bool false)) w86)
 (AndL (nnC p63) (AndL (nnC p63) (∃ (x88 : Int) (x89 : Int), LoadL w86 (padd p63 0) 0 [.int .i64 x88, .int .i64 x89] ∧
 Calls Tryd.prog 25 #[.agg #[.int .i64 x88, .int .i64 x89]] w86 (fun e w90 => ∃ (x91 : Int) (x92 : Int), e = .returned (.agg #[.int .i64 x91, .int .i64 x92]) ∧ w90.heap[w50.heap.size]? = w86.heap[w50.heap.size]? ∧ 
 Br ((x91 : Int) != 1)
 (R (.returned (.bool false)) w90)
 (AndL (nnC p63) (AndL (nnC p63) (∃ (x93 : Int) (x94 : Int), LoadL w90 (padd p63 0) 0 [.int .i64 x93, .int .i64 x94] ∧
 Calls Tryd.prog 25 #[.agg #[.int .i64 x93, .int .i64 x94]] w90 (fun e w95 => ∃ (x96 : Int) (x97 : Int), e = .returned (.agg #[.int .i64 x96, .int .i64 x97]) ∧ w95.heap[w50.heap.size]? = w90.heap[w50.heap.size]? ∧ 
 Br ((x97 : Int) != 2)
 (R (.returned (.bool false)) w95)
 (∃ n60, n60 < n56 ∧ ([.slice a0.a a0.n a0.c, .slice s53.a s53.n s53.c] : List Value) = [.slice a0.a a0.n a0.c, .slice s53.a s53.n s53.c] ∧ I55 n60 ((IntKind.wrap .i64 (x58 + 1))) w95))))))))))))
 (∃ n60, n60 < n56 ∧ ([.slice a0.a a0.n a0.c, .slice s53.a s53.n s53.c] : List Value) = [.slice a0.a a0.n a0.c, .slice s53.a s53.n s53.c] ∧ I55 n60 ((IntKind.wrap .i64 (x58 + 1))) w66.drew)))))))
 (Calls Tryd.prog 15 #[] w59 (fun e w98 => ∃ (b99 : Bool), e = .returned (.bool b99) ∧ w98.heap[w50.heap.size]? = w59.heap[w50.heap.size]? ∧ 
 R (.returned (.bool b99)) w98))))
theorem law11_ChunkNew.vc {a0 a1 w} {R : Ending → World → Prop} (h : law11_ChunkNew.pre a0 a1 w R) : Calls Tryd.prog n_law11_ChunkNew #[.slice a0.a a0.n a0.c, .int .i64 a1] w R :=
  calls_of_eq (an := ⟨[(5, ⟨[(6, .int .i64)], [], []⟩), (5, ⟨[(6, .int .i64)], [], []⟩)], [], []⟩) (args := [.slice a0.a a0.n a0.c, .int .i64 a1]) Tryd.noNG Tryd.mixed Tryd.func5 h (by kernel_rfl)


end Go.Proofs.YtfipllblcnahdaaDoor
