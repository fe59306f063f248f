import Derived.Test.YtalpkjfpmdpbiaaGreatDoorGB
set_option linter.all false
namespace Go.Proofs.YtalpkjfpmdpbiaaGreatDoor
open Go Go.Vc Go.RowKit Go.Proofs
set_option maxRecDepth 100000
set_option maxHeartbeats 8000000
variable {R:Ending->World->Prop}
set_option linter.unusedVariables false
abbrev kj:FuncId:=9
abbrev oR:FuncId:=13
def nB.pre (a0 a1 : Int) (a2 : Sl) (w : World) (R : Ending → World → Prop) : Prop :=
 ∀ w0 : World, w0 = w.alloc (.cells #[(0:Int), (0:Int), (0:Int), (0:Int), (0:Int), .slice none 0 0, .slice none 0 0, .slice none 0 0, .slice none 0 0, (0:Int), (0:Int), .slice none 0 0, (0:Int), (0:Int), .slice none 0 0, .slice none 0 0] 39) →
 Calls Tryz.prog 35 #[a0, (5:Int), (0:Int)] w0 (fun e w1 => ∃ (p2 : Option Addr), e = .returned (.pointer p2) ∧ Kp w w0 w1 ∧
 Calls Tryz.prog 36 #[a0, (5:Int), (0:Int)] w1 (fun e w3 => ∃ (x4 x5 x6 x7 x8 : Int) (s9 s10 s11 s12 : Sl), e = .returned (.agg #[x4, x5, x6, x7, x8, s9, s10, s11, s12]) ∧ Kp w w1 w3 ∧
 ∀ w13 : World, w13 = w3.alloc (.cells #[(0:Int), (0:Int), (0:Int), (0:Int), (0:Int), .slice none 0 0, .slice none 0 0, .slice none 0 0, .slice none 0 0] 33) →
 ∀ w14 : World, w14 = w13.setRow w3 #[x4, x5, x6, x7, x8, s9, s10, s11, s12] →
 Br (p2).isNone
 (∀ w15 : World, w15 = w14.setRow w #[(0:Int), (0:Int), (0:Int), (0:Int), (0:Int), .slice none 0 0, .slice none 0 0, .slice none 0 0, .slice none 0 0, (0:Int), (0:Int), .slice none 0 0, (0:Int), (0:Int), .slice none 0 0, .slice none 0 0] →
 R (.returned (.tuple #[.pointer none, .agg #[(0:Int), (0:Int), (0:Int), (0:Int), (0:Int), .slice none 0 0, .slice none 0 0, .slice none 0 0, .slice none 0 0, (0:Int), (0:Int), .slice none 0 0, (0:Int), (0:Int), .slice none 0 0, .slice none 0 0]])) w15)
 (Calls Tryz.prog 37 #[.pointer p2] w14 (fun e w16 => ∃ (p17 : Option Addr), e = .returned (.pointer p17) ∧ Kp w w14 w16 ∧ Kp w3 w14 w16 ∧
 Br (p17).isNone
 (∀ w18 : World, w18 = w16.setRow w #[(0:Int), (0:Int), (0:Int), (0:Int), (0:Int), .slice none 0 0, .slice none 0 0, .slice none 0 0, .slice none 0 0, (0:Int), (0:Int), .slice none 0 0, (0:Int), (0:Int), .slice none 0 0, .slice none 0 0] →
 R (.returned (.tuple #[.pointer none, .agg #[(0:Int), (0:Int), (0:Int), (0:Int), (0:Int), .slice none 0 0, .slice none 0 0, .slice none 0 0, .slice none 0 0, (0:Int), (0:Int), .slice none 0 0, (0:Int), (0:Int), .slice none 0 0, .slice none 0 0]])) w18)
 (∀ w19 : World, w19 = w16.alloc (.cells #[(0:Int), (0:Int), .int .i64 (-1), (0:Int), (1:Int), (0:Int), (0:Int), .int .i64 (-1), (0:Int), (1:Int)] 89) →
 ∃ I20 : Nat → Int → Int → Int → Int → Int → Int → Sl → Sl → Sl → Sl → World → Prop,
 (∃ n21, a6 [(0:Int), (0:Int), (0:Int), (0:Int), (0:Int), .slice none 0 0, .slice none 0 0, .slice none 0 0, .slice none 0 0, (0:Int), (0:Int), .slice none 0 0, (0:Int), (0:Int), .slice none 0 0, .slice none 0 0] ∧ a6 [(0:Int), (0:Int), .int .i64 (-1), (0:Int), (1:Int), (0:Int), (0:Int), .int .i64 (-1), (0:Int), (1:Int)] ∧ I20 n21 (0) x4 x5 x6 x7 x8 s9 s10 s11 s12 w19) ∧
 ∀ (n21 : Nat) (us22 : Nat → Value) (x23 x24 x25 x26 x27 x28 : Int) (s29 s30 s31 s32 : Sl) (w33 : World), I20 n21 x23 x24 x25 x26 x27 x28 s29 s30 s31 s32 w33 →
 Br (decide (x23 < 5))
 (cn (some ⟨w16, 0, none⟩) x23 5 ∧ ∃ (x35 x36 : Int), aj w33 (ae (some ⟨w16, 0, none⟩) ((x23 : Int).toNat * 2)) 0 [x35, x36] ∧
 Calls Tryz.prog 38 #[.pointer p17, .agg #[x35, x36]] w33 (fun e w37 => ∃ (x38 : Int), e = .returned x38 ∧ Kp w w33 w37 ∧ Kp w3 w33 w37 ∧ Kp w16 w33 w37 ∧
 cn (some ⟨w16, 0, none⟩) x23 5 ∧ ∃ (x39 x40 : Int), aj w37.drew (ae (some ⟨w16, 0, none⟩) ((x23 : Int).toNat * 2)) 0 [x39, x40] ∧
 (Calls Tryz.prog 39 #[.agg #[x24, x25, x26, x27, x28, s29, s30, s31], .agg #[x39, x40]] w37.drew (fun e w41 => ∃ (x42 x43 x44 x45 x46 : Int) (s47 s48 s49 : Sl) (x50 : Int), e = .returned (.tuple #[.agg #[x42, x43, x44, x45, x46, s47, s48, s49], x50]) ∧ Kp w w37.drew w41 ∧ Kp w3 w37.drew w41 ∧ Kp w16 w37.drew w41 ∧
 ∀ w51 : World, w51 = w41.alloc (.cells #[(0:Int), (0:Int), (0:Int), (0:Int), (0:Int), .slice none 0 0, .slice none 0 0, .slice none 0 0] 30) →
 ∀ w52 : World, w52 = w51.setRow w41 #[x42, x43, x44, x45, x46, s47, s48, s49] →
 ∀ w53 : World, w53 = w52.setRow w3 #[x42, x43, x44, x45, x46, s47, s48, s49, s32] →
 ∃ n34, n34 < n21 ∧ a6 [(0:Int), (0:Int), (0:Int), (0:Int), (0:Int), .slice none 0 0, .slice none 0 0, .slice none 0 0, .slice none 0 0, (0:Int), (0:Int), .slice none 0 0, (0:Int), (0:Int), .slice none 0 0, .slice none 0 0] ∧ a6 [(0:Int), (0:Int), .int .i64 (-1), (0:Int), (1:Int), (0:Int), (0:Int), .int .i64 (-1), (0:Int), (1:Int)] ∧ I20 n34 ((IntKind.wrap .i64 (x23 + 1))) x42 x43 x44 x45 x46 s47 s48 s49 s32 w53)) ∧ (∀ w54 : World, w54 = w37.drew.alloc (.cells #[(0:Int), (0:Int), (0:Int), (0:Int), (0:Int), .slice none 0 0, .slice none 0 0, .slice none 0 0] 30) →
 Calls Tryz.prog 39 #[.agg #[x24, x25, x26, x27, x28, s29, s30, s31], .agg #[x39, x40]] w54 (fun e w55 => ∃ (x56 x57 x58 x59 x60 : Int) (s61 s62 s63 : Sl) (x64 : Int), e = .returned (.tuple #[.agg #[x56, x57, x58, x59, x60, s61, s62, s63], x64]) ∧ Kp w w54 w55 ∧ Kp w3 w54 w55 ∧ Kp w16 w54 w55 ∧ w55.heap[w37.drew.heap.size]? = w54.heap[w37.drew.heap.size]? ∧
 ∀ w65 : World, w65 = w55.setRow w37.drew.heap.size #[x56, x57, x58, x59, x60, s61, s62, s63] →
 ∀ w66 : World, w66 = w65.setRow w3 #[x56, x57, x58, x59, x60, s61, s62, s63, s32] →
 ∃ n34, n34 < n21 ∧ a6 [(0:Int), (0:Int), (0:Int), (0:Int), (0:Int), .slice none 0 0, .slice none 0 0, .slice none 0 0, .slice none 0 0, (0:Int), (0:Int), .slice none 0 0, (0:Int), (0:Int), .slice none 0 0, .slice none 0 0] ∧ a6 [(0:Int), (0:Int), .int .i64 (-1), (0:Int), (1:Int), (0:Int), (0:Int), .int .i64 (-1), (0:Int), (1:Int)] ∧ I20 n34 ((IntKind.wrap .i64 (x23 + 1))) x56 x57 x58 x59 x60 s61 s62 s63 s32 w66))))
 (Calls Tryz.prog 40 #[.pointer p2, a1] w33 (fun e w67 => ∃ (p68 : Option Addr), e = .returned (.pointer p68) ∧ Kp w w33 w67 ∧ Kp w3 w33 w67 ∧ Kp w16 w33 w67 ∧
 Calls Tryz.prog 41 #[.agg #[x24, x25, x26, x27, x28, s29, s30, s31, s32], a1] w67 (fun e w69 => ∃ (x70 x71 x72 x73 x74 : Int) (s75 s76 s77 s78 : Sl) (x79 x80 : Int) (s81 : Sl) (x82 x83 : Int) (s84 s85 : Sl), e = .returned (.agg #[x70, x71, x72, x73, x74, s75, s76, s77, s78, x79, x80, s81, x82, x83, s84, s85]) ∧ Kp w w67 w69 ∧ Kp w3 w67 w69 ∧ Kp w16 w67 w69 ∧
 ∀ w86 : World, w86 = w69.alloc (.cells #[(0:Int), (0:Int), (0:Int), (0:Int), (0:Int), .slice none 0 0, .slice none 0 0, .slice none 0 0, .slice none 0 0, (0:Int), (0:Int), .slice none 0 0, (0:Int), (0:Int), .slice none 0 0, .slice none 0 0] 39) →
 ∀ w87 : World, w87 = w86.setRow w69 #[x70, x71, x72, x73, x74, s75, s76, s77, s78, x79, x80, s81, x82, x83, s84, s85] →
 ∃ J88 : Int → Int → Int → Int → Int → Sl → Sl → Sl → Sl → Int → Int → Sl → Int → Int → Sl → Sl → World → Prop,
 (∃ I89 : Nat → Int → Int → Int → Int → Int → Int → Sl → Sl → Sl → Sl → Int → Int → Sl → Int → Int → Sl → Sl → World → Prop,
 (∃ n90, a6 [(0:Int), (0:Int), (0:Int), (0:Int), (0:Int), .slice none 0 0, .slice none 0 0, .slice none 0 0, .slice none 0 0, (0:Int), (0:Int), .slice none 0 0, (0:Int), (0:Int), .slice none 0 0, .slice none 0 0] ∧ a6 [x24, x25, x26, x27, x28, s29, s30, s31, s32] ∧ a6 [(0:Int), (0:Int), .int .i64 (-1), (0:Int), (1:Int), (0:Int), (0:Int), .int .i64 (-1), (0:Int), (1:Int)] ∧ I89 n90 (0) x70 x71 x72 x73 x74 s75 s76 s77 s78 x79 x80 s81 x82 x83 s84 s85 w87) ∧
 ∀ (n90 : Nat) (us91 : Nat → Value) (x92 x93 x94 x95 x96 x97 : Int) (s98 s99 s100 s101 : Sl) (x102 x103 : Int) (s104 : Sl) (x105 x106 : Int) (s107 s108 : Sl) (w109 : World), I89 n90 x92 x93 x94 x95 x96 x97 s98 s99 s100 s101 x102 x103 s104 x105 x106 s107 s108 w109 →
 Br (decide (x92 < ((a2.n : Nat) : Int)))
 (Br (decide (x92 < 4))
 (cn a2.a x92 a2.n ∧ ∃ (x111 x112 x113 : Int), aj w109.drew (ae a2.a ((x92 : Int).toNat * 3)) 0 [x111, x112, x113] ∧
 Calls Tryz.prog 12 #[.agg #[x111, x112, x113]] w109.drew (fun e w114 => ∃ (x115 x116 x117 : Int), e = .returned (.agg #[x115, x116, x117]) ∧ Kp w w109.drew w114 ∧ Kp w3 w109.drew w114 ∧ Kp w16 w109.drew w114 ∧ Kp w69 w109.drew w114 ∧
 aj w114 (some ⟨w69, 14, none⟩) 0 [s107] ∧ ∀ w118 : World, w118 = w114.alloc (.cells #[x115, x116, x117] 23) →
 az 24 3 w118 s107 1 [x115, x116, x117] ∧ ∀ (s119 : Sl) (w120 : World), av 23 3 w118 s107 1 [x115, x116, x117] s119 w120 → Kp w w118 w120 ∧ Kp w3 w118 w120 ∧ Kp w16 w118 w120 ∧ Kp w69 w118 w120 ∧ Kp w114 w118 w120 ∧
 ∀ w121 : World, w121 = w120.setRow w69 #[x93, x94, x95, x96, x97, s98, s99, s100, s101, x102, x103, s104, x105, x106, s119, s108] →
 ∃ n110, n110 < n90 ∧ a6 [(0:Int), (0:Int), (0:Int), (0:Int), (0:Int), .slice none 0 0, .slice none 0 0, .slice none 0 0, .slice none 0 0, (0:Int), (0:Int), .slice none 0 0, (0:Int), (0:Int), .slice none 0 0, .slice none 0 0] ∧ a6 [x24, x25, x26, x27, x28, s29, s30, s31, s32] ∧ a6 [(0:Int), (0:Int), .int .i64 (-1), (0:Int), (1:Int), (0:Int), (0:Int), .int .i64 (-1), (0:Int), (1:Int)] ∧ I89 n110 ((IntKind.wrap .i64 (x92 + 1))) x93 x94 x95 x96 x97 s98 s99 s100 s101 x102 x103 s104 x105 x106 s119 s108 w121))
 (a6 [(0:Int), (0:Int), (0:Int), (0:Int), (0:Int), .slice none 0 0, .slice none 0 0, .slice none 0 0, .slice none 0 0, (0:Int), (0:Int), .slice none 0 0, (0:Int), (0:Int), .slice none 0 0, .slice none 0 0] ∧ a6 [x24, x25, x26, x27, x28, s29, s30, s31, s32] ∧ a6 [(0:Int), (0:Int), .int .i64 (-1), (0:Int), (1:Int), (0:Int), (0:Int), .int .i64 (-1), (0:Int), (1:Int)] ∧ J88 x93 x94 x95 x96 x97 s98 s99 s100 s101 x102 x103 s104 x105 x106 s107 s108 w109))
 (a6 [(0:Int), (0:Int), (0:Int), (0:Int), (0:Int), .slice none 0 0, .slice none 0 0, .slice none 0 0, .slice none 0 0, (0:Int), (0:Int), .slice none 0 0, (0:Int), (0:Int), .slice none 0 0, .slice none 0 0] ∧ a6 [x24, x25, x26, x27, x28, s29, s30, s31, s32] ∧ a6 [(0:Int), (0:Int), .int .i64 (-1), (0:Int), (1:Int), (0:Int), (0:Int), .int .i64 (-1), (0:Int), (1:Int)] ∧ J88 x93 x94 x95 x96 x97 s98 s99 s100 s101 x102 x103 s104 x105 x106 s107 s108 w109)) ∧
 ∀ us122 : Nat → Value, ∀ (x123 x124 x125 x126 x127 : Int) (s128 s129 s130 s131 : Sl) (x132 x133 : Int) (s134 : Sl) (x135 x136 : Int) (s137 s138 : Sl) (w139 : World), J88 x123 x124 x125 x126 x127 s128 s129 s130 s131 x132 x133 s134 x135 x136 s137 s138 w139 →
 Br (!(p68).isNone)
 (∀ w140 : World, w140 = w139.alloc (.cells #[.slice none 0 0] 37) →
 ∀ w141 : World, w141 = w140.setRow w139 #[s137] →
 Calls Tryz.prog 17 #[.pointer p68, .func (.func 42) #[] #[.pointer (some ⟨w139, 0, none⟩)]] w141 (fun e w142 => e = .returned (.tuple #[]) ∧ Kp w w141 w142 ∧ Kp w3 w141 w142 ∧ Kp w16 w141 w142 ∧ Kp w69 w141 w142 ∧
 ∀ w143 : World, w143 = w142.drew.setRow w #[x123, x124, x125, x126, x127, s128, s129, s130, s131, x132, x133, s134, x135, x136, s137, s138] →
 R (.returned (.tuple #[.pointer p68, .agg #[x123, x124, x125, x126, x127, s128, s129, s130, s131, x132, x133, s134, x135, x136, s137, s138]])) w143))
 (∀ w144 : World, w144 = w139.drew.setRow w #[x123, x124, x125, x126, x127, s128, s129, s130, s131, x132, x133, s134, x135, x136, s137, s138] →
 R (.returned (.tuple #[.pointer p68, .agg #[x123, x124, x125, x126, x127, s128, s129, s130, s131, x132, x133, s134, x135, x136, s137, s138]])) w144)))))))))
theorem nB.vc {a0 a1 a2 w} (h : nB.pre a0 a1 a2 w R) : Calls Tryz.prog kj #[a0, a1, a2] w R :=
 cq ⟨[(18, ⟨[(17, .int .i64)], [(3, [.int .i64, .int .i64, .int .i64, .int .i64, .int .i64, .slice, .slice, .slice, .slice, .int .i64, .int .i64, .slice, .int .i64, .int .i64, .slice, .slice])], []⟩), (10, ⟨[(12, .int .i64)], [(1, [.int .i64, .int .i64, .int .i64, .int .i64, .int .i64, .slice, .slice, .slice, .slice])], []⟩)], [(21, ⟨[], [(3, [.int .i64, .int .i64, .int .i64, .int .i64, .int .i64, .slice, .slice, .slice, .slice, .int .i64, .int .i64, .slice, .int .i64, .int .i64, .slice, .slice])], []⟩)], []⟩ Tryz.func9 h
def nT.pre  (w : World) (R : Ending → World → Prop) : Prop :=
 Calls Tryz.prog kj #[(1:Int), (1:Int), .slice none 0 0] w (fun e w0 => ∃ (p1 : Option Addr) (x2 x3 x4 x5 x6 : Int) (s7 s8 s9 s10 : Sl) (x11 x12 : Int) (s13 : Sl) (x14 x15 : Int) (s16 s17 : Sl), e = .returned (.tuple #[.pointer p1, .agg #[x2, x3, x4, x5, x6, s7, s8, s9, s10, x11, x12, s13, x14, x15, s16, s17]]) ∧
 ∀ w18 : World, w18 = w0.alloc (.cells #[(0:Int), (0:Int), (0:Int), (0:Int), (0:Int), .slice none 0 0, .slice none 0 0, .slice none 0 0, .slice none 0 0, (0:Int), (0:Int), .slice none 0 0, (0:Int), (0:Int), .slice none 0 0, .slice none 0 0] 39) →
 ∀ w19 : World, w19 = w18.setRow w0 #[x2, x3, x4, x5, x6, s7, s8, s9, s10, x11, x12, s13, x14, x15, s16, s17] →
 Br (p1).isNone
 (R (.returned (.bool false)) w19)
 (Calls Tryz.prog 14 #[.pointer p1, .agg #[(5:Int), (20:Int), (5:Int)], (3:Int)] w19 (fun e w20 => ∃ (x21 : Int), e = .returned x21 ∧ Kp w0 w19 w20 ∧
 Calls Tryz.prog 14 #[.pointer p1, .agg #[(7:Int), (20:Int), (5:Int)], (3:Int)] w20 (fun e w22 => ∃ (x23 : Int), e = .returned x23 ∧ Kp w0 w20 w22 ∧
 Calls Tryz.prog 15 #[.pointer p1] w22 (fun e w24 => ∃ (x25 : Int), e = .returned x25 ∧ Kp w0 w22 w24 ∧
 Calls Tryz.prog 15 #[.pointer p1] w24 (fun e w26 => ∃ (x27 : Int), e = .returned x27 ∧ Kp w0 w24 w26 ∧
 Br (x27 == 1)
 (Calls Tryz.prog 15 #[.pointer p1] w26 (fun e w28 => ∃ (x29 : Int), e = .returned x29 ∧ Kp w0 w26 w28 ∧
 R (.returned (.bool (x29 == 1))) w28))
 (R (.returned (.bool false)) w26)))))))
theorem nT.vc {w} (h : nT.pre  w R) : Calls Tryz.prog oR #[] w R :=
 cq ⟨[], [], []⟩ Tryz.func13 h
end Go.Proofs.YtalpkjfpmdpbiaaGreatDoor
