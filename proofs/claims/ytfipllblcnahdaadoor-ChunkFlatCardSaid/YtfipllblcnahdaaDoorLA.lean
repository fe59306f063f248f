import Derived.Test.YtfipllblcnahdaaDoorG
set_option linter.all false
namespace Go.Proofs.YtfipllblcnahdaaDoor
open Go Go.Vc Go.RowKit Go.Proofs
set_option maxRecDepth 100000
set_option maxHeartbeats 8000000
set_option linter.unusedVariables false
abbrev n_law11_ChunkAt : FuncId := 4
/- breccia/breccialaw11.ChunkAt  -/
def law11_ChunkAt.pre (a0 : Int) (a1_0 : Int) (a1_1 : Int) (a2_0 : Int) (a2_1 : Int) (a2_2 : Int) (a3 : Int) (w : World) (R : Ending → World → Prop) : Prop :=
 ∀ w0 : World, w0 = w.alloc (.cells #[.int .i64 a1_0, .int .i64 a1_1] 27) →
 ∀ w1 : World, w1 = w0.alloc (.cells #[.int .i64 a2_0, .int .i64 a2_1, .int .i64 a2_2] 23) →
 Calls Tryd.prog 16 #[.agg #[.int .i64 a1_0, .int .i64 a1_1]] w1 (fun e w2 => ∃ (x3 : Int) (x4 : Int), e = .returned (.agg #[.int .i64 x3, .int .i64 x4]) ∧ w2.heap[w.heap.size]? = w1.heap[w.heap.size]? ∧ w2.heap[w0.heap.size]? = w1.heap[w0.heap.size]? ∧ 
 ∀ w5 : World, w5 = w2.setRow w.heap.size #[.int .i64 x3, .int .i64 x4] →
 Calls Tryd.prog 10 #[.int .i64 a0, .agg #[.int .i64 x3, .int .i64 x4]] w5 (fun e w6 => ∃ (p7 : Option Addr), e = .returned (.pointer p7) ∧ w6.heap[w.heap.size]? = w5.heap[w.heap.size]? ∧ w6.heap[w0.heap.size]? = w5.heap[w0.heap.size]? ∧ 
 Br (p7).isNone
 (R (.returned (.bool false)) w6)
 (Calls Tryd.prog 17 #[.int .i64 a0, .agg #[.int .i64 x3, .int .i64 x4]] w6 (fun e w8 => ∃ (x9 : Int) (x10 : Int) (s11 : Sl), e = .returned (.agg #[.int .i64 x9, .int .i64 x10, .slice s11.a s11.n s11.c]) ∧ w8.heap[w.heap.size]? = w6.heap[w.heap.size]? ∧ w8.heap[w0.heap.size]? = w6.heap[w0.heap.size]? ∧ 
 ∀ w12 : World, w12 = w8.alloc (.cells #[.int .i64 0, .int .i64 0, .slice none 0 0] 38) →
 ∀ w13 : World, w13 = w12.setRow w8.heap.size #[.int .i64 x9, .int .i64 x10, .slice s11.a s11.n s11.c] →
 Calls Tryd.prog 18 #[.agg #[.int .i64 x3, .int .i64 x4], .agg #[.int .i64 a2_0, .int .i64 a2_1, .int .i64 a2_2]] w13 (fun e w14 => ∃ (x15 : Int) (x16 : Int) (x17 : Int), e = .returned (.agg #[.int .i64 x15, .int .i64 x16, .int .i64 x17]) ∧ w14.heap[w.heap.size]? = w13.heap[w.heap.size]? ∧ w14.heap[w0.heap.size]? = w13.heap[w0.heap.size]? ∧ w14.heap[w8.heap.size]? = w13.heap[w8.heap.size]? ∧ 
 ∀ w18 : World, w18 = w14.alloc (.cells #[.int .i64 0, .int .i64 0, .int .i64 0] 23) →
 ∀ w19 : World, w19 = w18.setRow w14.heap.size #[.int .i64 x15, .int .i64 x16, .int .i64 x17] →
 Calls Tryd.prog 12 #[.int .i64 a3] w19 (fun e w20 => ∃ (x21 : Int), e = .returned (.int .i64 x21) ∧ w20.heap[w.heap.size]? = w19.heap[w.heap.size]? ∧ w20.heap[w0.heap.size]? = w19.heap[w0.heap.size]? ∧ w20.heap[w8.heap.size]? = w19.heap[w8.heap.size]? ∧ w20.heap[w14.heap.size]? = w19.heap[w14.heap.size]? ∧ 
 Calls Tryd.prog 19 #[.pointer p7, .agg #[.int .i64 x15, .int .i64 x16, .int .i64 x17]] w20 (fun e w22 => ∃ (x23 : Int) (b24 : Bool), e = .returned (.tuple #[.int .i64 x23, .bool b24]) ∧ w22.heap[w.heap.size]? = w20.heap[w.heap.size]? ∧ w22.heap[w0.heap.size]? = w20.heap[w0.heap.size]? ∧ w22.heap[w8.heap.size]? = w20.heap[w8.heap.size]? ∧ w22.heap[w14.heap.size]? = w20.heap[w14.heap.size]? ∧ 
 Calls Tryd.prog 20 #[.agg #[.int .i64 x9, .int .i64 x10, .slice s11.a s11.n s11.c], .agg #[.int .i64 x15, .int .i64 x16, .int .i64 x17]] w22 (fun e w25 => ∃ (x26 : Int), e = .returned (.int .i64 x26) ∧ w25.heap[w.heap.size]? = w22.heap[w.heap.size]? ∧ w25.heap[w0.heap.size]? = w22.heap[w0.heap.size]? ∧ w25.heap[w8.heap.size]? = w22.heap[w8.heap.size]? ∧ w25.heap[w14.heap.size]? = w22.heap[w14.heap.size]? ∧ 
 Br (!(b24 == (decide ((x26 : Int) ≥ 0))))
 (R (.returned (.bool false)) w25)
 (Br b24
 (Br ((x23 : Int) != x26)
 (R (.returned (.bool false)) w25)
 (Br (!b24)
 (Br ((x23 : Int) != 0)
 (R (.returned (.bool false)) w25)
 (Calls Tryd.prog 13 #[.pointer p7, .agg #[.int .i64 x15, .int .i64 x16, .int .i64 x17], .int .i64 x21] w25 (fun e w27 => ∃ (x28 : Int), e = .returned (.int .i64 x28) ∧ w27.heap[w.heap.size]? = w25.heap[w.heap.size]? ∧ w27.heap[w0.heap.size]? = w25.heap[w0.heap.size]? ∧ w27.heap[w8.heap.size]? = w25.heap[w8.heap.size]? ∧ w27.heap[w14.heap.size]? = w25.heap[w14.heap.size]? ∧ 
 Br (!b24)
 (Br ((x28 : Int) == 5)
 (Calls Tryd.prog 22 #[.pointer p7] w27.drew (fun e w29 => ∃ (s30 : Sl), e = .returned (.slice s30.a s30.n s30.c) ∧ w29.heap[w.heap.size]? = w27.drew.heap[w.heap.size]? ∧ w29.heap[w0.heap.size]? = w27.drew.heap[w0.heap.size]? ∧ w29.heap[w8.heap.size]? = w27.drew.heap[w8.heap.size]? ∧ w29.heap[w14.heap.size]? = w27.drew.heap[w14.heap.size]? ∧ 
 LoadL w29 (some ⟨w8.heap.size, 2, none⟩) 0 [.slice s11.a s11.n s11.c] ∧ Calls Tryd.prog 21 #[.slice s30.a s30.n s30.c, .slice s11.a s11.n s11.c] w29 (fun e w31 => ∃ (b32 : Bool), e = .returned (.bool b32) ∧ w31.heap[w.heap.size]? = w29.heap[w.heap.size]? ∧ w31.heap[w0.heap.size]? = w29.heap[w0.heap.size]? ∧ w31.heap[w8.heap.size]? = w29.heap[w8.heap.size]? ∧ w31.heap[w14.heap.size]? = w29.heap[w14.heap.size]? ∧ 
 Br b32
 (Calls Tryd.prog 15 #[] w31 (fun e w33 => ∃ (b34 : Bool), e = .returned (.bool b34) ∧ w33.heap[w.heap.size]? = w31.heap[w.heap.size]? ∧ w33.heap[w0.heap.size]? = w31.heap[w0.heap.size]? ∧ w33.heap[w8.heap.size]? = w31.heap[w8.heap.size]? ∧ w33.heap[w14.heap.size]? = w31.heap[w14.heap.size]? ∧ 
 R (.returned (.bool b34)) w33))
 (R (.returned (.bool false)) w31))))
 (R (.returned (.bool false)) w27.drew))
 (Calls Tryd.prog 19 #[.pointer p7, .agg #[.int .i64 x15, .int .i64 x16, .int .i64 x17]] w27 (fun e w35 => ∃ (x36 : Int) (b37 : Bool), e = .returned (.tuple #[.int .i64 x36, .bool b37]) ∧ w35.heap[w.heap.size]? = w27.heap[w.heap.size]? ∧ w35.heap[w0.heap.size]? = w27.heap[w0.heap.size]? ∧ w35.heap[w8.heap.size]? = w27.heap[w8.heap.size]? ∧ w35.heap[w14.heap.size]? = w27.heap[w14.heap.size]? ∧ 
 ∀ w38 : World, w38 = w35.alloc (.cells #[.int .i64 0, .int .i64 0, .int .i64 0] 23) →
 ∀ w39 : World, w39 = w38.setRow w35.heap.size #[.int .i64 (IntKind.wrap .i64 (x15 + 1)), .int .i64 x16, .int .i64 x17] →
 Calls Tryd.prog 19 #[.pointer p7, .agg #[.int .i64 (IntKind.wrap .i64 (x15 + 1)), .int .i64 x16, .int .i64 x17]] w39 (fun e w40 => ∃ (x41 : Int) (b42 : Bool), e = .returned (.tuple #[.int .i64 x41, .bool b42]) ∧ w40.heap[w.heap.size]? = w39.heap[w.heap.size]? ∧ w40.heap[w0.heap.size]? = w39.heap[w0.heap.size]? ∧ w40.heap[w8.heap.size]? = w39.heap[w8.heap.size]? ∧ w40.heap[w14.heap.size]? = w39.heap[w14.heap.size]? ∧ w40.heap[w35.heap.size]? = w39.heap[w35.heap.size]? ∧ 
 Br ((x28 : Int) == 0)
 (Br ((x36 : Int) == x21)
 (Calls Tryd.prog 20 #[.agg #[.int .i64 x9, .int .i64 x10, .slice s11.a s11.n s11.c], .agg #[.int .i64 (IntKind.wrap .i64 (x15 + 1)), .int .i64 x16, .int .i64 x17]] w40 (fun e w43 => ∃ (x44 : Int), e = .returned (.int .i64 x44) ∧ w43.heap[w.heap.size]? = w40.heap[w.heap.size]? ∧ w43.heap[w0.heap.size]? = w40.heap[w0.heap.size]? ∧ w43.heap[w8.heap.size]? = w40.heap[w8.heap.size]? ∧ w43.heap[w14.heap.size]? = w40.heap[w14.heap.size]? ∧ w43.heap[w35.heap.size]? = w40.heap[w35.heap.size]? ∧ 
 Br (b42 == (decide ((x44 : Int) ≥ 0)))
 (Br (!b42)
 (Calls Tryd.prog 15 #[] w43 (fun e w45 => ∃ (b46 : Bool), e = .returned (.bool b46) ∧ w45.heap[w.heap.size]? = w43.heap[w.heap.size]? ∧ w45.heap[w0.heap.size]? = w43.heap[w0.heap.size]? ∧ w45.heap[w8.heap.size]? = w43.heap[w8.heap.size]? ∧ w45.heap[w14.heap.size]? = w43.heap[w14.heap.size]? ∧ w45.heap[w35.heap.size]? = w43.heap[w35.heap.size]? ∧ 
 R (.returned (.bool b46)) w45))
 (Calls Tryd.prog 20 #[.agg #[.int .i64 x9, .int .i64 x10, .slice s11.a s11.n s11.c], .agg #[.int .i64 (IntKind.wrap .i64 (x15 + 1)), .int .i64 x16, .int .i64 x17]] w43 (fun e w47 => ∃ (x48 : Int), e = .returned (.int .i64 x48) ∧ w47.heap[w.heap.size]? = w43.heap[w.heap.size]? ∧ w47.heap[w0.heap.size]? = w43.heap[w0.heap.size]? ∧ w47.heap[w8.heap.size]? = w43.heap[w8.heap.size]? ∧ w47.heap[w14.heap.size]? = w43.heap[w14.heap.size]? ∧ w47.heap[w35.heap.size]? = w43.heap[w35.heap.size]? ∧ 
 Br ((x41 : Int) == x48)
 (Calls Tryd.prog 15 #[] w47 (fun e w49 => ∃ (b50 : Bool), e = .returned (.bool b50) ∧ w49.heap[w.heap.size]? = w47.heap[w.heap.size]? ∧ w49.heap[w0.heap.size]? = w47.heap[w0.heap.size]? ∧ w49.heap[w8.heap.size]? = w47.heap[w8.heap.size]? ∧ w49.heap[w14.heap.size]? = w47.heap[w14.heap.size]? ∧ w49.heap[w35.heap.size]? = w47.heap[w35.heap.size]? ∧ 
 R (.returned (.bool b50)) w49))
 (R (.returned (.bool false)) w47))))
 (R (.returned (.bool false)) w43)))
 (R (.returned (.bool false)) w40))
 (R (.returned (.bool false)) w40)))))))
 (Calls Tryd.prog 13 #[.pointer p7, .agg #[.int .i64 x15, .int .i64 x16, .int .i64 x17], .int .i64 x21] w25 (fun e w51 => ∃ (x52 : Int), e = .returned (.int .i64 x52) ∧ w51.heap[w.heap.size]? = w25.heap[w.heap.size]? ∧ w51.heap[w0.heap.size]? = w25.heap[w0.heap.size]? ∧ w51.heap[w8.heap.size]? = w25.heap[w8.heap.size]? ∧ w51.heap[w14.heap.size]? = w25.heap[w14.heap.size]? ∧ 
 Br (!b24)
 (Br ((x52 : Int) == 5)
 (Calls Tryd.prog 22 #[.pointer p7] w51.drew (fun e w53 => ∃ (s54 : Sl), e = .returned (.slice s54.a s54.n s54.c) ∧ w53.heap[w.heap.size]? = w51.drew.heap[w.heap.size]? ∧ w53.heap[w0.heap.size]? = w51.drew.heap[w0.heap.size]? ∧ w53.heap[w8.heap.size]? = w51.drew.heap[w8.heap.size]? ∧ w53.heap[w14.heap.size]? = w51.drew.heap[w14.heap.size]? ∧ 
 LoadL w53 (some ⟨w8.heap.size, 2, none⟩) 0 [.slice s11.a s11.n s11.c] ∧ Calls Tryd.prog 21 #[.slice s54.a s54.n s54.c, .slice s11.a s11.n s11.c] w53 (fun e w55 => ∃ (b56 : Bool), e = .returned (.bool b56) ∧ w55.heap[w.heap.size]? = w53.heap[w.heap.size]? ∧ w55.heap[w0.heap.size]? = w53.heap[w0.heap.size]? ∧ w55.heap[w8.heap.size]? = w53.heap[w8.heap.size]? ∧ w55.heap[w14.heap.size]? = w53.heap[w14.heap.size]? ∧ 
 Br b56
 (Calls Tryd.prog 15 #[] w55 (fun e w57 => ∃ (b58 : Bool), e = .returned (.bool b58) ∧ w57.heap[w.heap.size]? = w55.heap[w.heap.size]? ∧ w57.heap[w0.heap.size]? = w55.heap[w0.heap.size]? ∧ w57.heap[w8.heap.size]? = w55.heap[w8.heap.size]? ∧ w57.heap[w14.heap.size]? = w55.heap[w14.heap.size]? ∧ 
 R (.returned (.bool b58)) w57))
 (R (.returned (.bool false)) w55))))
 (R (.returned (.bool false)) w51.drew))
 (Calls Tryd.prog 19 #[.pointer p7, .agg #[.int .i64 x15, .int .i64 x16, .int .i64 x17]] w51 (fun e w59 => ∃ (x60 : Int) (b61 : Bool), e = .returned (.tuple #[.int .i64 x60, .bool b61]) ∧ w59.heap[w.heap.size]? = w51.heap[w.heap.size]? ∧ w59.heap[w0.heap.size]? = w51.heap[w0.heap.size]? ∧ w59.heap[w8.heap.size]? = w51.heap[w8.heap.size]? ∧ w59.heap[w14.heap.size]? = w51.heap[w14.heap.size]? ∧ 
 ∀ w62 : World, w62 = w59.alloc (.cells #[.int .i64 0, .int .i64 0, .int .i64 0] 23) →
 ∀ w63 : World, w63 = w62.setRow w59.heap.size #[.int .i64 (IntKind.wrap .i64 (x15 + 1)), .int .i64 x16, .int .i64 x17] →
 Calls Tryd.prog 19 #[.pointer p7, .agg #[.int .i64 (IntKind.wrap .i64 (x15 + 1)), .int .i64 x16, .int .i64 x17]] w63 (fun e w64 => ∃ (x65 : Int) (b66 : Bool), e = .returned (.tuple #[.int .i64 x65, .bool b66]) ∧ w64.heap[w.heap.size]? = w63.heap[w.heap.size]? ∧ w64.heap[w0.heap.size]? = w63.heap[w0.heap.size]? ∧ w64.heap[w8.heap.size]? = w63.heap[w8.heap.size]? ∧ w64.heap[w14.heap.size]? = w63.heap[w14.heap.size]? ∧ w64.heap[w59.heap.size]? = w63.heap[w59.heap.size]? ∧ 
 Br ((x52 : Int) == 0)
 (Br ((x60 : Int) == x21)
 (Calls Tryd.prog 20 #[.agg #[.int .i64 x9, .int .i64 x10, .slice s11.a s11.n s11.c], .agg #[.int .i64 (IntKind.wrap .i64 (x15 + 1)), .int .i64 x16, .int .i64 x17]] w64 (fun e w67 => ∃ (x68 : Int), e = .returned (.int .i64 x68) ∧ w67.heap[w.heap.size]? = w64.heap[w.heap.size]? ∧ w67.heap[w0.heap.size]? = w64.heap[w0.heap.size]? ∧ w67.heap[w8.heap.size]? = w64.heap[w8.heap.size]? ∧ w67.heap[w14.heap.size]? = w64.heap[w14.heap.size]? ∧ w67.heap[w59.heap.size]? = w64.heap[w59.heap.size]? ∧ 
 Br (b66 == (decide ((x68 : Int) ≥ 0)))
 (Br (!b66)
 (Calls Tryd.prog 15 #[] w67 (fun e w69 => ∃ (b70 : Bool), e = .returned (.bool b70) ∧ w69.heap[w.heap.size]? = w67.heap[w.heap.size]? ∧ w69.heap[w0.heap.size]? = w67.heap[w0.heap.size]? ∧ w69.heap[w8.heap.size]? = w67.heap[w8.heap.size]? ∧ w69.heap[w14.heap.size]? = w67.heap[w14.heap.size]? ∧ w69.heap[w59.heap.size]? = w67.heap[w59.heap.size]? ∧ 
 R (.returned (.bool b70)) w69))
 (Calls Tryd.prog 20 #[.agg #[.int .i64 x9, .int .i64 x10, .slice s11.a s11.n s11.c], .agg #[.int .i64 (IntKind.wrap .i64 (x15 + 1)), .int .i64 x16, .int .i64 x17]] w67 (fun e w71 => ∃ (x72 : Int), e = .returned (.int .i64 x72) ∧ w71.heap[w.heap.size]? = w67.heap[w.heap.size]? ∧ w71.heap[w0.heap.size]? = w67.heap[w0.heap.size]? ∧ w71.heap[w8.heap.size]? = w67.heap[w8.heap.size]? ∧ w71.heap[w14.heap.size]? = w67.heap[w14.heap.size]? ∧ w71.heap[w59.heap.size]? = w67.heap[w59.heap.size]? ∧ 
 Br ((x65 : Int) == x72)
 (Calls Tryd.prog 15 #[] w71 (fun e w73 => ∃ (b74 : Bool), e = .returned (.bool b74) ∧ w73.heap[w.heap.size]? = w71.heap[w.heap.size]? ∧ w73.heap[w0.heap.size]? = w71.heap[w0.heap.size]? ∧ w73.heap[w8.heap.size]? = w71.heap[w8.heap.size]? ∧ w73.heap[w14.heap.size]? = w71.heap[w14.heap.size]? ∧ w73.heap[w59.heap.size]? = w71.heap[w59.heap.size]? ∧ 
 R (.returned (.bool b74)) w73))
 (R (.returned (.bool false)) w71))))
 (R (.returned (.bool false)) w67)))
 (R (.returned (.bool false)) w64))
 (R (.returned (.bool false)) w64))))))))
 (Br (!b24)
 (Br ((x23 : Int) != 0)
 (R (.returned (.bool false)) w25)
 (Calls Tryd.prog 13 #[.pointer p7, .agg #[.int .i64 x15, .int .i64 x16, .int .i64 x17], .int .i64 x21] w25 (fun e w75 => ∃ (x76 : Int), e = .returned (.int .i64 x76) ∧ w75.heap[w.heap.size]? = w25.heap[w.heap.size]? ∧ w75.heap[w0.heap.size]? = w25.heap[w0.heap.size]? ∧ w75.heap[w8.heap.size]? = w25.heap[w8.heap.size]? ∧ w75.heap[w14.heap.size]? = w25.heap[w14.heap.size]? ∧ 
 Br (!b24)
 (Br ((x76 : Int) == 5)
 (Calls Tryd.prog 22 #[.pointer p7] w75.drew (fun e w77 => ∃ (s78 : Sl), e = .returned (.slice s78.a s78.n s78.c) ∧ w77.heap[w.heap.size]? = w75.drew.heap[w.heap.size]? ∧ w77.heap[w0.heap.size]? = w75.drew.heap[w0.heap.size]? ∧ w77.heap[w8.heap.size]? = w75.drew.heap[w8.heap.size]? ∧ w77.heap[w14.heap.size]? = w75.drew.heap[w14.heap.size]? ∧ 
 LoadL w77 (some ⟨w8.heap.size, 2, none⟩) 0 [.slice s11.a s11.n s11.c] ∧ Calls Tryd.prog 21 #[.slice s78.a s78.n s78.c, .slice s11.a s11.n s11.c] w77 (fun e w79 => ∃ (b80 : Bool), e = .returned (.bool b80) ∧ w79.heap[w.heap.size]? = w77.heap[w.heap.size]? ∧ w79.heap[w0.heap.size]? = w77.heap[w0.heap.size]? ∧ w79.heap[w8.heap.size]? = w77.heap[w8.heap.size]? ∧ w79.heap[w14.heap.size]? = w77.heap[w14.heap.size]? ∧ 
 Br b80
 (Calls Tryd.prog 15 #[] w79 (fun e w81 => ∃ (b82 : Bool), e = .returned (.bool b82) ∧ w81.heap[w.heap.size]? = w79.heap[w.heap.size]? ∧ w81.heap[w0.heap.size]? = w79.heap[w0.heap.size]? ∧ w81.heap[w8.heap.size]? = w79.heap[w8.heap.size]? ∧ w81.heap[w14.heap.size]? = w79.heap[w14.heap.size]? ∧ 
 R (.returned (.bool b82)) w81))
 (R (.returned (.bool false)) w79))))
 (R (.returned (.bool false)) w75.drew))
 (Calls Tryd.prog 19 #[.pointer p7, .agg #[.int .i64 x15, .int .i64 x16, .int .i64 x17]] w75 (fun e w83 => ∃ (x84 : Int) (b85 : Bool), e = .returned (.tuple #[.int .i64 x84, .bool b85]) ∧ w83.heap[w.heap.size]? = w75.heap[w.heap.size]? ∧ w83.heap[w0.heap.size]? = w75.heap[w0.heap.size]? ∧ w83.heap[w8.heap.size]? = w75.heap[w8.heap.size]? ∧ w83.heap[w14.heap.size]? = w75.heap[w14.heap.size]? ∧ 
 ∀ w86 : World, w86 = w83.alloc (.cells #[.int .i64 0, .int .i64 0, .int .i64 0] 23) →
 ∀ w87 : World, w87 = w86.setRow w83.heap.size #[.int .i64 (IntKind.wrap .i64 (x15 + 1)), .int .i64 x16, .int .i64 x17] →
 Calls Tryd.prog 19 #[.pointer p7, .agg #[.int .i64 (IntKind.wrap .i64 (x15 + 1)), .int .i64 x16, .int .i64 x17]] w87 (fun e w88 => ∃ (x89 : Int) (b90 : Bool), e = .returned (.tuple #[.int .i64 x89, .bool b90]) ∧ w88.heap[w.heap.size]? = w87.heap[w.heap.size]? ∧ w88.heap[w0.heap.size]? = w87.heap[w0.heap.size]? ∧ w88.heap[w8.heap.size]? = w87.heap[w8.heap.size]? ∧ w88.heap[w14.heap.size]? = w87.heap[w14.heap.size]? ∧ w88.heap[w83.heap.size]? = w87.heap[w83.heap.size]? ∧ 
 Br ((x76 : Int) == 0)
 (Br ((x84 : Int) == x21)
 (Calls Tryd.prog 20 #[.agg #[.int .i64 x9, .int .i64 x10, .slice s11.a s11.n s11.c], .agg #[.int .i64 (IntKind.wrap .i64 (x15 + 1)), .int .i64 x16, .int .i64 x17]] w88 (fun e w91 => ∃ (x92 : Int), e = .returned (.int .i64 x92) ∧ w91.heap[w.heap.size]? = w88.heap[w.heap.size]? ∧ w91.heap[w0.heap.size]? = w88.heap[w0.heap.size]? ∧ w91.heap[w8.heap.size]? = w88.heap[w8.heap.size]? ∧ w91.heap[w14.heap.size]? = w88.heap[w14.heap.size]? ∧ w91.heap[w83.heap.size]? = w88.heap[w83.heap.size]? ∧ 
 Br (b90 == (decide ((x92 : Int) ≥ 0)))
 (Br (!b90)
 (Calls Tryd.prog 15 #[] w91 (fun e w93 => ∃ (b94 : Bool), e = .returned (.bool b94) ∧ w93.heap[w.heap.size]? = w91.heap[w.heap.size]? ∧ w93.heap[w0.heap.size]? = w91.heap[w0.heap.size]? ∧ w93.heap[w8.heap.size]? = w91.heap[w8.heap.size]? ∧ w93.heap[w14.heap.size]? = w91.heap[w14.heap.size]? ∧ w93.heap[w83.heap.size]? = w91.heap[w83.heap.size]? ∧ 
 R (.returned (.bool b94)) w93))
 (Calls Tryd.prog 20 #[.agg #[.int .i64 x9, .int .i64 x10, .slice s11.a s11.n s11.c], .agg #[.int .i64 (IntKind.wrap .i64 (x15 + 1)), .int .i64 x16, .int .i64 x17]] w91 (fun e w95 => ∃ (x96 : Int), e = .returned (.int .i64 x96) ∧ w95.heap[w.heap.size]? = w91.heap[w.heap.size]? ∧ w95.heap[w0.heap.size]? = w91.heap[w0.heap.size]? ∧ w95.heap[w8.heap.size]? = w91.heap[w8.heap.size]? ∧ w95.heap[w14.heap.size]? = w91.heap[w14.heap.size]? ∧ w95.heap[w83.heap.size]? = w91.heap[w83.heap.size]? ∧ 
 Br ((x89 : Int) == x96)
 (Calls Tryd.prog 15 #[] w95 (fun e w97 => ∃ (b98 : Bool), e = .returned (.bool b98) ∧ w97.heap[w.heap.size]? = w95.heap[w.heap.size]? ∧ w97.heap[w0.heap.size]? = w95.heap[w0.heap.size]? ∧ w97.heap[w8.heap.size]? = w95.heap[w8.heap.size]? ∧ w97.heap[w14.heap.size]? = w95.heap[w14.heap.size]? ∧ w97.heap[w83.heap.size]? = w95.heap[w83.heap.size]? ∧ 
 R (.returned (.bool b98)) w97))
 (R (.returned (.bool false)) w95))))
 (R (.returned (.bool false)) w91)))
 (R (.returned (.bool false)) w88))
 (R (.returned (.bool false)) w88)))))))
 (Calls Tryd.prog 13 #[.pointer p7, .agg #[.int .i64 x15, .int .i64 x16, .int .i64 x17], .int .i64 x21] w25 (fun e w99 => ∃ (x100 : Int), e = .returned (.int .i64 x100) ∧ w99.heap[w.heap.size]? = w25.heap[w.heap.size]? ∧ w99.heap[w0.heap.size]? = w25.heap[w0.heap.size]? ∧ w99.heap[w8.heap.size]? = w25.heap[w8.heap.size]? ∧ w99.heap[w14.heap.size]? = w25.heap[w14.heap.size]? ∧ 
 Br (!b24)
 (Br ((x100 : Int) == 5)
 (Calls Tryd.prog 22 #[.pointer p7] w99.drew (fun e w101 => ∃ (s102 : Sl), e = .returned (.slice s102.a s102.n s102.c) ∧ w101.heap[w.heap.size]? = w99.drew.heap[w.heap.size]? ∧ w101.heap[w0.heap.size]? = w99.drew.heap[w0.heap.size]? ∧ w101.heap[w8.heap.size]? = w99.drew.heap[w8.heap.size]? ∧ w101.heap[w14.heap.size]? = w99.drew.heap[w14.heap.size]? ∧ 
 LoadL w101 (some ⟨w8.heap.size, 2, none⟩) 0 [.slice s11.a s11.n s11.c] ∧ Calls Tryd.prog 21 #[.slice s102.a s102.n s102.c, .slice s11.a s11.n s11.c] w101 (fun e w103 => ∃ (b104 : Bool), e = .returned (.bool b104) ∧ w103.heap[w.heap.size]? = w101.heap[w.heap.size]? ∧ w103.heap[w0.heap.size]? = w101.heap[w0.heap.size]? ∧ w103.heap[w8.heap.size]? = w101.heap[w8.heap.size]? ∧ w103.heap[w14.heap.size]? = w101.heap[w14.heap.size]? ∧ 
 Br b104
 (Calls Tryd.prog 15 #[] w103 (fun e w105 => ∃ (b106 : Bool), e = .returned (.bool b106) ∧ w105.heap[w.heap.size]? = w103.heap[w.heap.size]? ∧ w105.heap[w0.heap.size]? = w103.heap[w0.heap.size]? ∧ w105.heap[w8.heap.size]? = w103.heap[w8.heap.size]? ∧ w105.heap[w14.heap.size]? = w103.heap[w14.heap.size]? ∧ 
 R (.returned (.bool b106)) w105))
 (R (.returned (.bool false)) w103))))
 (R (.returned (.bool false)) w99.drew))
 (Calls Tryd.prog 19 #[.pointer p7, .agg #[.int .i64 x15, .int .i64 x16, .int .i64 x17]] w99 (fun e w107 => ∃ (x108 : Int) (b109 : Bool), e = .returned (.tuple #[.int .i64 x108, .bool b109]) ∧ w107.heap[w.heap.size]? = w99.heap[w.heap.size]? ∧ w107.heap[w0.heap.size]? = w99.heap[w0.heap.size]? ∧ w107.heap[w8.heap.size]? = w99.heap[w8.heap.size]? ∧ w107.heap[w14.heap.size]? = w99.heap[w14.heap.size]? ∧ 
 ∀ w110 : World, w110 = w107.alloc (.cells #[.int .i64 0, .int .i64 0, .int .i64 0] 23) →
 ∀ w111 : World, w111 = w110.setRow w107.heap.size #[.int .i64 (IntKind.wrap .i64 (x15 + 1)), .int .i64 x16, .int .i64 x17] →
 Calls Tryd.prog 19 #[.pointer p7, .agg #[.int .i64 (IntKind.wrap .i64 (x15 + 1)), .int .i64 x16, .int .i64 x17]] w111 (fun e w112 => ∃ (x113 : Int) (b114 : Bool), e = .returned (.tuple #[.int .i64 x113, .bool b114]) ∧ w112.heap[w.heap.size]? = w111.heap[w.heap.size]? ∧ w112.heap[w0.heap.size]? = w111.heap[w0.heap.size]? ∧ w112.heap[w8.heap.size]? = w111.heap[w8.heap.size]? ∧ w112.heap[w14.heap.size]? = w111.heap[w14.heap.size]? ∧ w112.heap[w107.heap.size]? = w111.heap[w107.heap.size]? ∧ 
 Br ((x100 : Int) == 0)
 (Br ((x108 : Int) == x21)
 (Calls Tryd.prog 20 #[.agg #[.int .i64 x9, .int .i64 x10, .slice s11.a s11.n s11.c], .agg #[.int .i64 (IntKind.wrap .i64 (x15 + 1)), .int .i64 x16, .int .i64 x17]] w112 (fun e w115 => ∃ (x116 : Int), e = .returned (.int .i64 x116) ∧ w115.heap[w.heap.size]? = w112.heap[w.heap.size]? ∧ w115.heap[w0.heap.size]? = w112.heap[w0.heap.size]? ∧ w115.heap[w8.heap.size]? = w112.heap[w8.heap.size]? ∧ w115.heap[w14.heap.size]? = w112.heap[w14.heap.size]? ∧ w115.heap[w107.heap.size]? = w112.heap[w107.heap.size]? ∧ 
 Br (b114 == (decide ((x116 : Int) ≥ 0)))
 (Br (!b114)
 (Calls Tryd.prog 15 #[] w115 (fun e w117 => ∃ (b118 : Bool), e = .returned (.bool b118) ∧ w117.heap[w.heap.size]? = w115.heap[w.heap.size]? ∧ w117.heap[w0.heap.size]? = w115.heap[w0.heap.size]? ∧ w117.heap[w8.heap.size]? = w115.heap[w8.heap.size]? ∧ w117.heap[w14.heap.size]? = w115.heap[w14.heap.size]? ∧ w117.heap[w107.heap.size]? = w115.heap[w107.heap.size]? ∧ 
 R (.returned (.bool b118)) w117))
 (Calls Tryd.prog 20 #[.agg #[.int .i64 x9, .int .i64 x10, .slice s11.a s11.n s11.c], .agg #[.int .i64 (IntKind.wrap .i64 (x15 + 1)), .int .i64 x16, .int .i64 x17]] w115 (fun e w119 => ∃ (x120 : Int), e = .returned (.int .i64 x120) ∧ w119.heap[w.heap.size]? = w115.heap[w.heap.size]? ∧ w119.heap[w0.heap.size]? = w115.heap[w0.heap.size]? ∧ w119.heap[w8.heap.size]? = w115.heap[w8.heap.size]? ∧ w119.heap[w14.heap.size]? = w115.heap[w14.heap.size]? ∧ w119.heap[w107.heap.size]? = w115.heap[w107.heap.size]? ∧ 
 Br ((x113 : Int) == x120)
 (Calls Tryd.prog 15 #[] w119 (fun e w121 => ∃ (b122 : Bool), e = .returned (.bool b122) ∧ w121.heap[w.heap.size]? = w119.heap[w.heap.size]? ∧ w121.heap[w0.heap.size]? = w119.heap[w0.heap.size]? ∧ w121.heap[w8.heap.size]? = w119.heap[w8.heap.size]? ∧ w121.heap[w14.heap.size]? = w119.heap[w14.heap.size]? ∧ w121.heap[w107.heap.size]? = w119.heap[w107.heap.size]? ∧ 
 R (.returned (.bool b122)) w121))
 (R (.returned (.bool false)) w119))))
 (R (.returned (.bool false)) w115)))
 (R (.returned (.bool false)) w112))
 (R (.returned (.bool false)) w112))))))))))))))))
theorem law11_ChunkAt.vc {a0 a1_0 a1_1 a2_0 a2_1 a2_2 a3 w} {R : Ending → World → Prop} (h : law11_ChunkAt.pre a0 a1_0 a1_1 a2_0 a2_1 a2_2 a3 w R) : Calls Tryd.prog n_law11_ChunkAt #[.int .i64 a0, .agg #[.int .i64 a1_0, .int .i64 a1_1], .agg #[.int .i64 a2_0, .int .i64 a2_1, .int .i64 a2_2], .int .i64 a3] w R :=
  calls_of_eq (an := ⟨[], [], []⟩) (args := [.int .i64 a0, .agg #[.int .i64 a1_0, .int .i64 a1_1], .agg #[.int .i64 a2_0, .int .i64 a2_1, .int .i64 a2_2], .int .i64 a3]) Tryd.noNG Tryd.mixed Tryd.func4 h (by kernel_rfl)


end Go.Proofs.YtfipllblcnahdaaDoor
