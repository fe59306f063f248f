import Derived.Test.YtfipllblcnahdaaDoorG
set_option linter.all false
namespace Go.Proofs.YtfipllblcnahdaaDoor
open Go Go.Vc Go.RowKit Go.Proofs
set_option maxRecDepth 100000
set_option maxHeartbeats 8000000
set_option linter.unusedVariables false
abbrev n_law11_ChunkBytes : FuncId := 9
/- breccia/breccialaw11.ChunkBytes  -/
def law11_ChunkBytes.pre (a0 : Int) (a1_0 : Int) (a1_1 : Int) (a2 : Sl) (a3 : Sl) (a4 : Int) (a5 : Int) (w : World) (R : Ending → World → Prop) : Prop :=
 ∀ w0 : World, w0 = w.alloc (.cells #[.int .i64 a1_0, .int .i64 a1_1] 27) →
 Calls Tryd.prog 16 #[.agg #[.int .i64 a1_0, .int .i64 a1_1]] w0 (fun e w1 => ∃ (x2 : Int) (x3 : Int), e = .returned (.agg #[.int .i64 x2, .int .i64 x3]) ∧ w1.heap[w.heap.size]? = w0.heap[w.heap.size]? ∧ 
 ∀ w4 : World, w4 = w1.setRow w.heap.size #[.int .i64 x2, .int .i64 x3] →
 Calls Tryd.prog 10 #[.int .i64 a0, .agg #[.int .i64 x2, .int .i64 x3]] w4 (fun e w5 => ∃ (p6 : Option Addr), e = .returned (.pointer p6) ∧ w5.heap[w.heap.size]? = w4.heap[w.heap.size]? ∧ 
 Br (p6).isNone
 (R (.returned (.bool false)) w5)
 (Calls Tryd.prog 17 #[.int .i64 a0, .agg #[.int .i64 x2, .int .i64 x3]] w5 (fun e w7 => ∃ (x8 : Int) (x9 : Int) (s10 : Sl), e = .returned (.agg #[.int .i64 x8, .int .i64 x9, .slice s10.a s10.n s10.c]) ∧ w7.heap[w.heap.size]? = w5.heap[w.heap.size]? ∧ 
 ∀ w11 : World, w11 = w7.alloc (.cells #[.int .i64 0, .int .i64 0, .slice none 0 0] 38) →
 ∀ w12 : World, w12 = w11.setRow w7.heap.size #[.int .i64 x8, .int .i64 x9, .slice s10.a s10.n s10.c] →
 ∃ I13 : Nat → Int → Int → Int → Sl → World → Prop,
 (∃ n14, ([.int .i64 x2, .int .i64 x3] : List Value) = [.int .i64 x2, .int .i64 x3] ∧ I13 n14 (0) (x8) (x9) ⟨s10.a, s10.n, s10.c⟩ w12) ∧
 ∀ (n14 : Nat) (us15 : Nat → Value) (x16 : Int) (x17 : Int) (x18 : Int) (s19 : Sl) (w20 : World), I13 n14 x16 x17 x18 s19 w20 →
 Br (decide ((x16 : Int) < ((a2.n : Nat) : Int)))
 (Br (decide ((x16 : Int) < 5))
 (InB a2.a x16 a2.n ∧ ∃ (x22 : Int) (x23 : Int) (x24 : Int) (x25 : Int) (x26 : Int) (x27 : Int) (x28 : Int) (x29 : Int), LoadL w20.drew (padd a2.a ((x16 : Int).toNat * 8)) 0 [.int .i64 x22, .int .i64 x23, .int .i64 x24, .int .i64 x25, .int .i64 x26, .int .i64 x27, .int .i64 x28, .int .i64 x29] ∧
 (Calls Tryd.prog 26 #[.pointer p6, .agg #[.int .i64 x17, .int .i64 x18, .slice s19.a s19.n s19.c], .agg #[.int .i64 x22, .int .i64 x23, .int .i64 x24, .int .i64 x25, .int .i64 x26, .int .i64 x27, .int .i64 x28, .int .i64 x29]] w20.drew (fun e w30 => ∃ (x31 : Int) (x32 : Int) (s33 : Sl) (b34 : Bool), e = .returned (.tuple #[.agg #[.int .i64 x31, .int .i64 x32, .slice s33.a s33.n s33.c], .bool b34]) ∧ w30.heap[w.heap.size]? = w20.drew.heap[w.heap.size]? ∧ w30.heap[w7.heap.size]? = w20.drew.heap[w7.heap.size]? ∧ 
 ∀ w35 : World, w35 = w30.alloc (.cells #[.int .i64 0, .int .i64 0, .slice none 0 0] 38) →
 ∀ w36 : World, w36 = w35.setRow w30.heap.size #[.int .i64 x31, .int .i64 x32, .slice s33.a s33.n s33.c] →
 ∀ w37 : World, w37 = w36.setRow w7.heap.size #[.int .i64 x31, .int .i64 x32, .slice s33.a s33.n s33.c] →
 Br (!b34)
 (R (.returned (.bool false)) w37)
 (∃ n21, n21 < n14 ∧ ([.int .i64 x2, .int .i64 x3] : List Value) = [.int .i64 x2, .int .i64 x3] ∧ I13 n21 ((IntKind.wrap .i64 (x16 + 1))) (x31) (x32) ⟨s33.a, s33.n, s33.c⟩ w37))) ∧ (∀ w38 : World, w38 = w20.drew.alloc (.cells #[.int .i64 0, .int .i64 0, .slice none 0 0] 38) →
 Calls Tryd.prog 26 #[.pointer p6, .agg #[.int .i64 x17, .int .i64 x18, .slice s19.a s19.n s19.c], .agg #[.int .i64 x22, .int .i64 x23, .int .i64 x24, .int .i64 x25, .int .i64 x26, .int .i64 x27, .int .i64 x28, .int .i64 x29]] w38 (fun e w39 => ∃ (x40 : Int) (x41 : Int) (s42 : Sl) (b43 : Bool), e = .returned (.tuple #[.agg #[.int .i64 x40, .int .i64 x41, .slice s42.a s42.n s42.c], .bool b43]) ∧ w39.heap[w.heap.size]? = w38.heap[w.heap.size]? ∧ w39.heap[w7.heap.size]? = w38.heap[w7.heap.size]? ∧ w39.heap[w20.drew.heap.size]? = w38.heap[w20.drew.heap.size]? ∧ 
 ∀ w44 : World, w44 = w39.setRow w20.drew.heap.size #[.int .i64 x40, .int .i64 x41, .slice s42.a s42.n s42.c] →
 ∀ w45 : World, w45 = w44.setRow w7.heap.size #[.int .i64 x40, .int .i64 x41, .slice s42.a s42.n s42.c] →
 Br (!b43)
 (R (.returned (.bool false)) w45)
 (∃ n21, n21 < n14 ∧ ([.int .i64 x2, .int .i64 x3] : List Value) = [.int .i64 x2, .int .i64 x3] ∧ I13 n21 ((IntKind.wrap .i64 (x16 + 1))) (x40) (x41) ⟨s42.a, s42.n, s42.c⟩ w45))))
 (Calls Tryd.prog 31 #[.pointer p6] w20 (fun e w46 => ∃ (s47 : Sl), e = .returned (.slice s47.a s47.n s47.c) ∧ w46.heap[w.heap.size]? = w20.heap[w.heap.size]? ∧ w46.heap[w7.heap.size]? = w20.heap[w7.heap.size]? ∧ 
 Calls Tryd.prog 32 #[.slice s19.a s19.n s19.c] w46 (fun e w48 => ∃ (s49 : Sl) (x50 : Int), e = .returned (.tuple #[.slice s49.a s49.n s49.c, .int .i64 x50]) ∧ w48.heap[w.heap.size]? = w46.heap[w.heap.size]? ∧ w48.heap[w7.heap.size]? = w46.heap[w7.heap.size]? ∧ 
 Calls Tryd.prog 33 #[.slice s47.a s47.n s47.c, .slice s49.a s49.n s49.c] w48 (fun e w51 => ∃ (b52 : Bool), e = .returned (.bool b52) ∧ w51.heap[w.heap.size]? = w48.heap[w.heap.size]? ∧ w51.heap[w7.heap.size]? = w48.heap[w7.heap.size]? ∧ 
 Br (!b52)
 (R (.returned (.bool false)) w51)
 (Br ((((s47.n : Nat) : Int) : Int) == 0)
 (R (.returned (.bool false)) w51)
 (Calls Tryd.prog 34 #[.agg #[.int .i64 x2, .int .i64 x3], .slice s47.a s47.n s47.c] w51 (fun e w53 => ∃ (p54 : Option Addr) (x55 : Int), e = .returned (.tuple #[.pointer p54, .int .i64 x55]) ∧ w53.heap[w.heap.size]? = w51.heap[w.heap.size]? ∧ w53.heap[w7.heap.size]? = w51.heap[w7.heap.size]? ∧ 
 Br (p54).isNone
 (R (.returned (.bool false)) w53)
 (Br ((x55 : Int) != 0)
 (R (.returned (.bool false)) w53)
 (Calls Tryd.prog 14 #[.pointer p54, .pointer p6] w53.drew (fun e w56 => ∃ (b57 : Bool), e = .returned (.bool b57) ∧ w56.heap[w.heap.size]? = w53.drew.heap[w.heap.size]? ∧ w56.heap[w7.heap.size]? = w53.drew.heap[w7.heap.size]? ∧ 
 Br (!b57)
 (R (.returned (.bool false)) w56)
 (Calls Tryd.prog 14 #[.pointer p6, .pointer p54] w56 (fun e w58 => ∃ (b59 : Bool), e = .returned (.bool b59) ∧ w58.heap[w.heap.size]? = w56.heap[w.heap.size]? ∧ w58.heap[w7.heap.size]? = w56.heap[w7.heap.size]? ∧ 
 Br (!b59)
 (R (.returned (.bool false)) w58)
 (AndL (nnC p54) (AndL (nnC p54) (∃ (x60 : Int) (x61 : Int), LoadL w58 (padd p54 0) 0 [.int .i64 x60, .int .i64 x61] ∧
 Calls Tryd.prog 25 #[.agg #[.int .i64 x60, .int .i64 x61]] w58 (fun e w62 => ∃ (x63 : Int) (x64 : Int), e = .returned (.agg #[.int .i64 x63, .int .i64 x64]) ∧ w62.heap[w.heap.size]? = w58.heap[w.heap.size]? ∧ w62.heap[w7.heap.size]? = w58.heap[w7.heap.size]? ∧ 
 LoadL w62 (some ⟨w.heap.size, 0, none⟩) 0 [.int .i64 x2, .int .i64 x3] ∧ Br (!(((x63 : Int) == x2) && ((x64 : Int) == x3)))
 (R (.returned (.bool false)) w62)
 (Calls Tryd.prog 11 #[.int .i64 a4, .int .i64 ((s47.n : Nat) : Int)] w62 (fun e w65 => ∃ (x66 : Int), e = .returned (.int .i64 x66) ∧ w65.heap[w.heap.size]? = w62.heap[w.heap.size]? ∧ w65.heap[w7.heap.size]? = w62.heap[w7.heap.size]? ∧ 
 InB s47.a x66 s47.n ∧ (((padd s47.a ((x66 : Int).toNat * 1))).isSome = true ∧ Wr w65 (padd s47.a ((x66 : Int).toNat * 1)) 1) ∧ pblk (padd s47.a ((x66 : Int).toNat * 1)) ≠ some w.heap.size ∧ pblk (padd s47.a ((x66 : Int).toNat * 1)) ≠ some w7.heap.size ∧ (∀ w67 : World, w67 = setP w65 (padd s47.a ((x66 : Int).toNat * 1)) [.int .u8 a5] →
 Calls Tryd.prog 35 #[.slice a3.a a3.n a3.c, .int .i64 60] w67 (fun e w68 => ∃ (s69 : Sl), e = .returned (.slice s69.a s69.n s69.c) ∧ w68.heap[w.heap.size]? = w67.heap[w.heap.size]? ∧ w68.heap[w7.heap.size]? = w67.heap[w7.heap.size]? ∧ 
 ∀ w70 : World, w70 = w68.alloc (.cells #[.slice s69.a s69.n s69.c, .slice s47.a s47.n s47.c] 68) →
 ∃ I71 : Nat → Int → World → Prop,
 (∃ n72, ([.int .i64 x2, .int .i64 x3] : List Value) = [.int .i64 x2, .int .i64 x3] ∧ ([.int .i64 x17, .int .i64 x18, .slice s19.a s19.n s19.c] : List Value) = [.int .i64 x17, .int .i64 x18, .slice s19.a s19.n s19.c] ∧ ([.slice s69.a s69.n s69.c, .slice s47.a s47.n s47.c] : List Value) = [.slice s69.a s69.n s69.c, .slice s47.a s47.n s47.c] ∧ I71 n72 (0) w70) ∧
 ∀ (n72 : Nat) (us73 : Nat → Value) (x74 : Int) (w75 : World), I71 n72 x74 w75 →
 Br (decide ((x74 : Int) < 2))
 (InB (some ⟨w68.heap.size, 0, none⟩) x74 2 ∧ ∃ (s77 : Sl), ld w75.drew (padd (some ⟨w68.heap.size, 0, none⟩) ((x74 : Int).toNat * 1)) = some (.slice s77.a s77.n s77.c) ∧
 Calls Tryd.prog 34 #[.agg #[.int .i64 x2, .int .i64 x3], .slice s77.a s77.n s77.c] w75.drew (fun e w78 => ∃ (p79 : Option Addr) (x80 : Int), e = .returned (.tuple #[.pointer p79, .int .i64 x80]) ∧ w78.heap[w.heap.size]? = w75.drew.heap[w.heap.size]? ∧ w78.heap[w7.heap.size]? = w75.drew.heap[w7.heap.size]? ∧ w78.heap[w68.heap.size]? = w75.drew.heap[w68.heap.size]? ∧ 
 InB (some ⟨w68.heap.size, 0, none⟩) x74 2 ∧ ∃ (s81 : Sl), ld w78.drew (padd (some ⟨w68.heap.size, 0, none⟩) ((x74 : Int).toNat * 1)) = some (.slice s81.a s81.n s81.c) ∧
 (Calls Tryd.prog 36 #[.agg #[.int .i64 x2, .int .i64 x3], .slice s81.a s81.n s81.c] w78.drew (fun e w82 => ∃ (x83 : Int) (x84 : Int) (s85 : Sl) (x86 : Int), e = .returned (.tuple #[.agg #[.int .i64 x83, .int .i64 x84, .slice s85.a s85.n s85.c], .int .i64 x86]) ∧ w82.heap[w.heap.size]? = w78.drew.heap[w.heap.size]? ∧ w82.heap[w7.heap.size]? = w78.drew.heap[w7.heap.size]? ∧ w82.heap[w68.heap.size]? = w78.drew.heap[w68.heap.size]? ∧ 
 ∀ w87 : World, w87 = w82.alloc (.cells #[.int .i64 0, .int .i64 0, .slice none 0 0] 38) →
 ∀ w88 : World, w88 = w87.setRow w82.heap.size #[.int .i64 x83, .int .i64 x84, .slice s85.a s85.n s85.c] →
 Br ((x80 : Int) != x86)
 (R (.returned (.bool false)) w88)
 (Br (!((!(p79).isNone) == ((x86 : Int) == 0)))
 (R (.returned (.bool false)) w88)
 (Br (!(p79).isNone)
 (Calls Tryd.prog 22 #[.pointer p79] w88.drew (fun e w89 => ∃ (s90 : Sl), e = .returned (.slice s90.a s90.n s90.c) ∧ w89.heap[w.heap.size]? = w88.drew.heap[w.heap.size]? ∧ w89.heap[w7.heap.size]? = w88.drew.heap[w7.heap.size]? ∧ w89.heap[w68.heap.size]? = w88.drew.heap[w68.heap.size]? ∧ w89.heap[w82.heap.size]? = w88.drew.heap[w82.heap.size]? ∧ 
 LoadL w89 (some ⟨w82.heap.size, 2, none⟩) 0 [.slice s85.a s85.n s85.c] ∧ Calls Tryd.prog 21 #[.slice s90.a s90.n s90.c, .slice s85.a s85.n s85.c] w89 (fun e w91 => ∃ (b92 : Bool), e = .returned (.bool b92) ∧ w91.heap[w.heap.size]? = w89.heap[w.heap.size]? ∧ w91.heap[w7.heap.size]? = w89.heap[w7.heap.size]? ∧ w91.heap[w68.heap.size]? = w89.heap[w68.heap.size]? ∧ w91.heap[w82.heap.size]? = w89.heap[w82.heap.size]? ∧ 
 Br (!b92)
 (R (.returned (.bool false)) w91)
 (∃ n76, n76 < n72 ∧ ([.int .i64 x2, .int .i64 x3] : List Value) = [.int .i64 x2, .int .i64 x3] ∧ ([.int .i64 x17, .int .i64 x18, .slice s19.a s19.n s19.c] : List Value) = [.int .i64 x17, .int .i64 x18, .slice s19.a s19.n s19.c] ∧ ([.slice s69.a s69.n s69.c, .slice s47.a s47.n s47.c] : List Value) = [.slice s69.a s69.n s69.c, .slice s47.a s47.n s47.c] ∧ I71 n76 ((IntKind.wrap .i64 (x74 + 1))) w91))))
 (∃ n76, n76 < n72 ∧ ([.int .i64 x2, .int .i64 x3] : List Value) = [.int .i64 x2, .int .i64 x3] ∧ ([.int .i64 x17, .int .i64 x18, .slice s19.a s19.n s19.c] : List Value) = [.int .i64 x17, .int .i64 x18, .slice s19.a s19.n s19.c] ∧ ([.slice s69.a s69.n s69.c, .slice s47.a s47.n s47.c] : List Value) = [.slice s69.a s69.n s69.c, .slice s47.a s47.n s47.c] ∧ I71 n76 ((IntKind.wrap .i64 (x74 + 1))) w88.drew))))) ∧ (∀ w93 : World, w93 = w78.drew.alloc (.cells #[.int .i64 0, .int .i64 0, .slice none 0 0] 38) →
 Calls Tryd.prog 36 #[.agg #[.int .i64 x2, .int .i64 x3], .slice s81.a s81.n s81.c] w93 (fun e w94 => ∃ (x95 : Int) (x96 : Int) (s97 : Sl) (x98 : Int), e = .returned (.tuple #[.agg #[.int .i64 x95, .int .i64 x96, .slice s97.a s97.n s97.c], .int .i64 x98]) ∧ w94.heap[w.heap.size]? = w93.heap[w.heap.size]? ∧ w94.heap[w7.heap.size]? = w93.heap[w7.heap.size]? ∧ w94.heap[w68.heap.size]? = w93.heap[w68.heap.size]? ∧ w94.heap[w78.drew.heap.size]? = w93.heap[w78.drew.heap.size]? ∧ 
 ∀ w99 : World, w99 = w94.setRow w78.drew.heap.size #[.int .i64 x95, .int .i64 x96, .slice s97.a s97.n s97.c] →
 Br ((x80 : Int) != x98)
 (R (.returned (.bool false)) w99)
 (Br (!((!(p79).isNone) == ((x98 : Int) == 0)))
 (R (.returned (.bool false)) w99)
 (Br (!(p79).isNone)
 (Calls Tryd.prog 22 #[.pointer p79] w99.drew (fun e w100 => ∃ (s101 : Sl), e = .returned (.slice s101.a s101.n s101.c) ∧ w100.heap[w.heap.size]? = w99.drew.heap[w.heap.size]? ∧ w100.heap[w7.heap.size]? = w99.drew.heap[w7.heap.size]? ∧ w100.heap[w68.heap.size]? = w99.drew.heap[w68.heap.size]? ∧ w100.heap[w78.drew.heap.size]? = w99.drew.heap[w78.drew.heap.size]? ∧ 
 LoadL w100 (some ⟨w78.drew.heap.size, 2, none⟩) 0 [.slice s97.a s97.n s97.c] ∧ Calls Tryd.prog 21 #[.slice s101.a s101.n s101.c, .slice s97.a s97.n s97.c] w100 (fun e w102 => ∃ (b103 : Bool), e = .returned (.bool b103) ∧ w102.heap[w.heap.size]? = w100.heap[w.heap.size]? ∧ w102.heap[w7.heap.size]? = w100.heap[w7.heap.size]? ∧ w102.heap[w68.heap.size]? = w100.heap[w68.heap.size]? ∧ w102.heap[w78.drew.heap.size]? = w100.heap[w78.drew.heap.size]? ∧ 
 Br (!b103)
 (R (.returned (.bool false)) w102)
 (∃ n76, n76 < n72 ∧ ([.int .i64 x2, .int .i64 x3] : List Value) = [.int .i64 x2, .int .i64 x3] ∧ ([.int .i64 x17, .int .i64 x18, .slice s19.a s19.n s19.c] : List Value) = [.int .i64 x17, .int .i64 x18, .slice s19.a s19.n s19.c] ∧ ([.slice s69.a s69.n s69.c, .slice s47.a s47.n s47.c] : List Value) = [.slice s69.a s69.n s69.c, .slice s47.a s47.n s47.c] ∧ I71 n76 ((IntKind.wrap .i64 (x74 + 1))) w102))))
 (∃ n76, n76 < n72 ∧ ([.int .i64 x2, .int .i64 x3] : List Value) = [.int .i64 x2, .int .i64 x3] ∧ ([.int .i64 x17, .int .i64 x18, .slice s19.a s19.n s19.c] : List Value) = [.int .i64 x17, .int .i64 x18, .slice s19.a s19.n s19.c] ∧ ([.slice s69.a s69.n s69.c, .slice s47.a s47.n s47.c] : List Value) = [.slice s69.a s69.n s69.c, .slice s47.a s47.n s47.c] ∧ I71 n76 ((IntKind.wrap .i64 (x74 + 1))) w99.drew)))))))
 (Calls Tryd.prog 15 #[] w75 (fun e w104 => ∃ (b105 : Bool), e = .returned (.bool b105) ∧ w104.heap[w.heap.size]? = w75.heap[w.heap.size]? ∧ w104.heap[w7.heap.size]? = w75.heap[w7.heap.size]? ∧ w104.heap[w68.heap.size]? = w75.heap[w68.heap.size]? ∧ 
 R (.returned (.bool b105)) w104)))))))))))))))))))))))
 (Calls Tryd.prog 31 #[.pointer p6] w20 (fun e w106 => ∃ (s107 : Sl), e = .returned (.slice s107.a s107.n s107.c) ∧ w106.heap[w.heap.size]? = w20.heap[w.heap.size]? ∧ w106.heap[w7.heap.size]? = w20.heap[w7.heap.size]? ∧ 
 Calls Tryd.prog 32 #[.slice s19.a s19.n s19.c] w106 (fun e w108 => ∃ (s109 : Sl) (x110 : Int), e = .returned (.tuple #[.slice s109.a s109.n s109.c, .int .i64 x110]) ∧ w108.heap[w.heap.size]? = w106.heap[w.heap.size]? ∧ w108.heap[w7.heap.size]? = w106.heap[w7.heap.size]? ∧ 
 Calls Tryd.prog 33 #[.slice s107.a s107.n s107.c, .slice s109.a s109.n s109.c] w108 (fun e w111 => ∃ (b112 : Bool), e = .returned (.bool b112) ∧ w111.heap[w.heap.size]? = w108.heap[w.heap.size]? ∧ w111.heap[w7.heap.size]? = w108.heap[w7.heap.size]? ∧ 
 Br (!b112)
 (R (.returned (.bool false)) w111)
 (Br ((((s107.n : Nat) : Int) : Int) == 0)
 (R (.returned (.bool false)) w111)
 (Calls Tryd.prog 34 #[.agg #[.int .i64 x2, .int .i64 x3], .slice s107.a s107.n s107.c] w111 (fun e w113 => ∃ (p114 : Option Addr) (x115 : Int), e = .returned (.tuple #[.pointer p114, .int .i64 x115]) ∧ w113.heap[w.heap.size]? = w111.heap[w.heap.size]? ∧ w113.heap[w7.heap.size]? = w111.heap[w7.heap.size]? ∧ 
 Br (p114).isNone
 (R (.returned (.bool false)) w113)
 (Br ((x115 : Int) != 0)
 (R (.returned (.bool false)) w113)
 (Calls Tryd.prog 14 #[.pointer p114, .pointer p6] w113.drew (fun e w116 => ∃ (b117 : Bool), e = .returned (.bool b117) ∧ w116.heap[w.heap.size]? = w113.drew.heap[w.heap.size]? ∧ w116.heap[w7.heap.size]? = w113.drew.heap[w7.heap.size]? ∧ 
 Br (!b117)
 (R (.returned (.bool false)) w116)
 (Calls Tryd.prog 14 #[.pointer p6, .pointer p114] w116 (fun e w118 => ∃ (b119 : Bool), e = .returned (.bool b119) ∧ w118.heap[w.heap.size]? = w116.heap[w.heap.size]? ∧ w118.heap[w7.heap.size]? = w116.heap[w7.heap.size]? ∧ 
 Br (!b119)
 (R (.returned (.bool false)) w118)
 (AndL (nnC p114) (AndL (nnC p114) (∃ (x120 : Int) (x121 : Int), LoadL w118 (padd p114 0) 0 [.int .i64 x120, .int .i64 x121] ∧
 Calls Tryd.prog 25 #[.agg #[.int .i64 x120, .int .i64 x121]] w118 (fun e w122 => ∃ (x123 : Int) (x124 : Int), e = .returned (.agg #[.int .i64 x123, .int .i64 x124]) ∧ w122.heap[w.heap.size]? = w118.heap[w.heap.size]? ∧ w122.heap[w7.heap.size]? = w118.heap[w7.heap.size]? ∧ 
 LoadL w122 (some ⟨w.heap.size, 0, none⟩) 0 [.int .i64 x2, .int .i64 x3] ∧ Br (!(((x123 : Int) == x2) && ((x124 : Int) == x3)))
 (R (.returned (.bool false)) w122)
 (Calls Tryd.prog 11 #[.int .i64 a4, .int .i64 ((s107.n : Nat) : Int)] w122 (fun e w125 => ∃ (x126 : Int), e = .returned (.int .i64 x126) ∧ w125.heap[w.heap.size]? = w122.heap[w.heap.size]? ∧ w125.heap[w7.heap.size]? = w122.heap[w7.heap.size]? ∧ 
 InB s107.a x126 s107.n ∧ (((padd s107.a ((x126 : Int).toNat * 1))).isSome = true ∧ Wr w125 (padd s107.a ((x126 : Int).toNat * 1)) 1) ∧ pblk (padd s107.a ((x126 : Int).toNat * 1)) ≠ some w.heap.size ∧ pblk (padd s107.a ((x126 : Int).toNat * 1)) ≠ some w7.heap.size ∧ (∀ w127 : World, w127 = setP w125 (padd s107.a ((x126 : Int).toNat * 1)) [.int .u8 a5] →
 Calls Tryd.prog 35 #[.slice a3.a a3.n a3.c, .int .i64 60] w127 (fun e w128 => ∃ (s129 : Sl), e = .returned (.slice s129.a s129.n s129.c) ∧ w128.heap[w.heap.size]? = w127.heap[w.heap.size]? ∧ w128.heap[w7.heap.size]? = w127.heap[w7.heap.size]? ∧ 
 ∀ w130 : World, w130 = w128.alloc (.cells #[.slice s129.a s129.n s129.c, .slice s107.a s107.n s107.c] 68) →
 ∃ I131 : Nat → Int → World → Prop,
 (∃ n132, ([.int .i64 x2, .int .i64 x3] : List Value) = [.int .i64 x2, .int .i64 x3] ∧ ([.int .i64 x17, .int .i64 x18, .slice s19.a s19.n s19.c] : List Value) = [.int .i64 x17, .int .i64 x18, .slice s19.a s19.n s19.c] ∧ ([.slice s129.a s129.n s129.c, .slice s107.a s107.n s107.c] : List Value) = [.slice s129.a s129.n s129.c, .slice s107.a s107.n s107.c] ∧ I131 n132 (0) w130) ∧
 ∀ (n132 : Nat) (us133 : Nat → Value) (x134 : Int) (w135 : World), I131 n132 x134 w135 →
 Br (decide ((x134 : Int) < 2))
 (InB (some ⟨w128.heap.size, 0, none⟩) x134 2 ∧ ∃ (s137 : Sl), ld w135.drew (padd (some ⟨w128.heap.size, 0, none⟩) ((x134 : Int).toNat * 1)) = some (.slice s137.a s137.n s137.c) ∧
 Calls Tryd.prog 34 #[.agg #[.int .i64 x2, .int .i64 x3], .slice s137.a s137.n s137.c] w135.drew (fun e w138 => ∃ (p139 : Option Addr) (x140 : Int), e = .returned (.tuple #[.pointer p139, .int .i64 x140]) ∧ w138.heap[w.heap.size]? = w135.drew.heap[w.heap.size]? ∧ w138.heap[w7.heap.size]? = w135.drew.heap[w7.heap.size]? ∧ w138.heap[w128.heap.size]? = w135.drew.heap[w128.heap.size]? ∧ 
 InB (some ⟨w128.heap.size, 0, none⟩) x134 2 ∧ ∃ (s141 : Sl), ld w138.drew (padd (some ⟨w128.heap.size, 0, none⟩) ((x134 : Int).toNat * 1)) = some (.slice s141.a s141.n s141.c) ∧
 (Calls Tryd.prog 36 #[.agg #[.int .i64 x2, .int .i64 x3], .slice s141.a s141.n s141.c] w138.drew (fun e w142 => ∃ (x143 : Int) (x144 : Int) (s145 : Sl) (x146 : Int), e = .returned (.tuple #[.agg #[.int .i64 x143, .int .i64 x144, .slice s145.a s145.n s145.c], .int .i64 x146]) ∧ w142.heap[w.heap.size]? = w138.drew.heap[w.heap.size]? ∧ w142.heap[w7.heap.size]? = w138.drew.heap[w7.heap.size]? ∧ w142.heap[w128.heap.size]? = w138.drew.heap[w128.heap.size]? ∧ 
 ∀ w147 : World, w147 = w142.alloc (.cells #[.int .i64 0, .int .i64 0, .slice none 0 0] 38) →
 ∀ w148 : World, w148 = w147.setRow w142.heap.size #[.int .i64 x143, .int .i64 x144, .slice s145.a s145.n s145.c] →
 Br ((x140 : Int) != x146)
 (R (.returned (.bool false)) w148)
 (Br (!((!(p139).isNone) == ((x146 : Int) == 0)))
 (R (.returned (.bool false)) w148)
 (Br (!(p139).isNone)
 (Calls Tryd.prog 22 #[.pointer p139] w148.drew (fun e w149 => ∃ (s150 : Sl), e = .returned (.slice s150.a s150.n s150.c) ∧ w149.heap[w.heap.size]? = w148.drew.heap[w.heap.size]? ∧ w149.heap[w7.heap.size]? = w148.drew.heap[w7.heap.size]? ∧ w149.heap[w128.heap.size]? = w148.drew.heap[w128.heap.size]? ∧ w149.heap[w142.heap.size]? = w148.drew.heap[w142.heap.size]? ∧ 
 LoadL w149 (some ⟨w142.heap.size, 2, none⟩) 0 [.slice s145.a s145.n s145.c] ∧ Calls Tryd.prog 21 #[.slice s150.a s150.n s150.c, .slice s145.a s145.n s145.c] w149 (fun e w151 => ∃ (b152 : Bool), e = .returned (.bool b152) ∧ w151.heap[w.heap.size]? = w149.heap[w.heap.size]? ∧ w151.heap[w7.heap.size]? = w149.heap[w7.heap.size]? ∧ w151.heap[w128.heap.size]? = w149.heap[w128.heap.size]? ∧ w151.heap[w142.heap.size]? = w149.heap[w142.heap.size]? ∧ 
 Br (!b152)
 (R (.returned (.bool false)) w151)
 (∃ n136, n136 < n132 ∧ ([.int .i64 x2, .int .i64 x3] : List Value) = [.int .i64 x2, .int .i64 x3] ∧ ([.int .i64 x17, .int .i64 x18, .slice s19.a s19.n s19.c] : List Value) = [.int .i64 x17, .int .i64 x18, .slice s19.a s19.n s19.c] ∧ ([.slice s129.a s129.n s129.c, .slice s107.a s107.n s107.c] : List Value) = [.slice s129.a s129.n s129.c, .slice s107.a s107.n s107.c] ∧ I131 n136 ((IntKind.wrap .i64 (x134 + 1))) w151))))
 (∃ n136, n136 < n132 ∧ ([.int .i64 x2, .int .i64 x3] : List Value) = [.int .i64 x2, .int .i64 x3] ∧ ([.int .i64 x17, .int .i64 x18, .slice s19.a s19.n s19.c] : List Value) = [.int .i64 x17, .int .i64 x18, .slice s19.a s19.n s19.c] ∧ ([.slice s129.a s129.n s129.c, .slice s107.a s107.n s107.c] : List Value) = [.slice s129.a s129.n s129.c, .slice s107.a s107.n s107.c] ∧ I131 n136 ((IntKind.wrap .i64 (x134 + 1))) w148.drew))))) ∧ (∀ w153 : World, w153 = w138.drew.alloc (.cells #[.int .i64 0, .int .i64 0, .slice none 0 0] 38) →
 Calls Tryd.prog 36 #[.agg #[.int .i64 x2, .int .i64 x3], .slice s141.a s141.n s141.c] w153 (fun e w154 => ∃ (x155 : Int) (x156 : Int) (s157 : Sl) (x158 : Int), e = .returned (.tuple #[.agg #[.int .i64 x155, .int .i64 x156, .slice s157.a s157.n s157.c], .int .i64 x158]) ∧ w154.heap[w.heap.size]? = w153.heap[w.heap.size]? ∧ w154.heap[w7.heap.size]? = w153.heap[w7.heap.size]? ∧ w154.heap[w128.heap.size]? = w153.heap[w128.heap.size]? ∧ w154.heap[w138.drew.heap.size]? = w153.heap[w138.drew.heap.size]? ∧ 
 ∀ w159 : World, w159 = w154.setRow w138.drew.heap.size #[.int .i64 x155, .int .i64 x156, .slice s157.a s157.n s157.c] →
 Br ((x140 : Int) != x158)
 (R (.returned (.bool false)) w159)
 (Br (!((!(p139).isNone) == ((x158 : Int) == 0)))
 (R (.returned (.bool false)) w159)
 (Br (!(p139).isNone)
 (Calls Tryd.prog 22 #[.pointer p139] w159.drew (fun e w160 => ∃ (s161 : Sl), e = .returned (.slice s161.a s161.n s161.c) ∧ w160.heap[w.heap.size]? = w159.drew.heap[w.heap.size]? ∧ w160.heap[w7.heap.size]? = w159.drew.heap[w7.heap.size]? ∧ w160.heap[w128.heap.size]? = w159.drew.heap[w128.heap.size]? ∧ w160.heap[w138.drew.heap.size]? = w159.drew.heap[w138.drew.heap.size]? ∧ 
 LoadL w160 (some ⟨w138.drew.heap.size, 2, none⟩) 0 [.slice s157.a s157.n s157.c] ∧ Calls Tryd.prog 21 #[.slice s161.a s161.n s161.c, .slice s157.a s157.n s157.c] w160 (fun e w162 => ∃ (b163 : Bool), e = .returned (.bool b163) ∧ w162.heap[w.heap.size]? = w160.heap[w.heap.size]? ∧ w162.heap[w7.heap.size]? = w160.heap[w7.heap.size]? ∧ w162.heap[w128.heap.size]? = w160.heap[w128.heap.size]? ∧ w162.heap[w138.drew.heap.size]? = w160.heap[w138.drew.heap.size]? ∧ 
 Br (!b163)
 (R (.returned (.bool false)) w162)
 (∃ n136, n136 < n132 ∧ ([.int .i64 x2, .int .i64 x3] : List Value) = [.int .i64 x2, .int .i64 x3] ∧ ([.int .i64 x17, .int .i64 x18, .slice s19.a s19.n s19.c] : List Value) = [.int .i64 x17, .int .i64 x18, .slice s19.a s19.n s19.c] ∧ ([.slice s129.a s129.n s129.c, .slice s107.a s107.n s107.c] : List Value) = [.slice s129.a s129.n s129.c, .slice s107.a s107.n s107.c] ∧ I131 n136 ((IntKind.wrap .i64 (x134 + 1))) w162))))
 (∃ n136, n136 < n132 ∧ ([.int .i64 x2, .int .i64 x3] : List Value) = [.int .i64 x2, .int .i64 x3] ∧ ([.int .i64 x17, .int .i64 x18, .slice s19.a s19.n s19.c] : List Value) = [.int .i64 x17, .int .i64 x18, .slice s19.a s19.n s19.c] ∧ ([.slice s129.a s129.n s129.c, .slice s107.a s107.n s107.c] : List Value) = [.slice s129.a s129.n s129.c, .slice s107.a s107.n s107.c] ∧ I131 n136 ((IntKind.wrap .i64 (x134 + 1))) w159.drew)))))))
 (Calls Tryd.prog 15 #[] w135 (fun e w164 => ∃ (b165 : Bool), e = .returned (.bool b165) ∧ w164.heap[w.heap.size]? = w135.heap[w.heap.size]? ∧ w164.heap[w7.heap.size]? = w135.heap[w7.heap.size]? ∧ w164.heap[w128.heap.size]? = w135.heap[w128.heap.size]? ∧ 
 R (.returned (.bool b165)) w164))))))))))))))))))))))))))
theorem law11_ChunkBytes.vc {a0 a1_0 a1_1 a2 a3 a4 a5 w} {R : Ending → World → Prop} (h : law11_ChunkBytes.pre a0 a1_0 a1_1 a2 a3 a4 a5 w R) : Calls Tryd.prog n_law11_ChunkBytes #[.int .i64 a0, .agg #[.int .i64 a1_0, .int .i64 a1_1], .slice a2.a a2.n a2.c, .slice a3.a a3.n a3.c, .int .i64 a4, .int .u8 a5] w R :=
  calls_of_eq (an := ⟨[(25, ⟨[(24, .int .i64)], [], []⟩), (25, ⟨[(24, .int .i64)], [], []⟩), (7, ⟨[(15, .int .i64)], [(1, [.int .i64, .int .i64, .slice])], []⟩)], [], []⟩) (args := [.int .i64 a0, .agg #[.int .i64 a1_0, .int .i64 a1_1], .slice a2.a a2.n a2.c, .slice a3.a a3.n a3.c, .int .i64 a4, .int .u8 a5]) Tryd.noNG Tryd.mixed Tryd.func9 h (by kernel_rfl)


end Go.Proofs.YtfipllblcnahdaaDoor
