import Derived.Test.YtalpkjfpmdpbiaaGreatDoorGS
set_option linter.all false
namespace Go.Proofs.YtalpkjfpmdpbiaaGreatDoor
open Go Go.Vc Go.RowKit Go.Proofs
set_option maxRecDepth 100000
set_option maxHeartbeats 8000000
variable{R:Ending->World->Prop}
set_option linter.unusedVariables false
abbrev wZ:FuncId:=22
abbrev uZ:FuncId:=68
abbrev sk:FuncId:=39
abbrev fR:FuncId:=49
abbrev oM:FuncId:=112
abbrev u4:FuncId:=99
abbrev jf:FuncId:=80
abbrev bt:FuncId:=77
abbrev bR:FuncId:=78
abbrev An:FuncId:=79
abbrev qT:FuncId:=125
abbrev ki:FuncId:=171
abbrev jg:FuncId:=172
abbrev kj:FuncId:=215
abbrev oN:FuncId:=216
abbrev mE:FuncId:=217
abbrev kl:FuncId:=218
abbrev qV:FuncId:=240
abbrev oO:FuncId:=248
def xc.pre (a0_0 a0_1 a0_2 a0_3 a0_4 : Int) (a0_5 a0_6 a0_7 : Sl) (a1_0 a1_1 a1_2 : Int) (w : World) (R : Ending → World → Prop) : Prop :=
 ∀ w0 : World, w0 = w.alloc (.cells #[a0_0, a0_1, a0_2, a0_3, a0_4, a0_5, a0_6, a0_7] 30) →
 ∀ w1 : World, w1 = w0.alloc (.cells #[a1_0, a1_1, a1_2] 23) →
 Calls Tryz.prog 50 #[.agg #[a1_0, a1_1, a1_2]] w1.drew (fun e w2 => ∃ (x3 x4 : Int), e = .returned (.agg #[x3, x4]) ∧ Kp w w1.drew w2 ∧ Kp w0 w1.drew w2 ∧
 ah w2 (some ⟨w, 0, none⟩) 0 [a0_0, a0_1, a0_2, a0_3, a0_4, a0_5, a0_6, a0_7] ∧ Calls Tryz.prog fR #[.agg #[a0_0, a0_1, a0_2, a0_3, a0_4, a0_5, a0_6, a0_7], .agg #[x3, x4]] w2 (fun e w5 => ∃ (x6 : Int), e = .returned x6 ∧ Kp w w2 w5 ∧ Kp w0 w2 w5 ∧
 Br (decide (x6 < 0))
 (R (.returned (.int .i64 (-1))) w5)
 (Br (decide (a1_1 < 0))
 (R (.returned (1:Int)) w5)
 (Br (decide (a1_1 > 31))
 (R (.returned (0:Int)) w5)
 (bA a0_7.a x6 a0_7.n ∧ aK (ep (ab a0_7.a ((x6 : Int).toNat * 5))) (∃ (x7 x8 : Int) (s9 : Sl), ah w5.drew (ab (ab a0_7.a ((x6 : Int).toNat * 5)) 0) 0 [x7, x8, s9] ∧
 Calls Tryz.prog 51 #[.agg #[x7, x8, s9], .agg #[a1_0, a1_1, a1_2]] w5.drew (fun e w10 => ∃ (x11 : Int), e = .returned x11 ∧ Kp w w5.drew w10 ∧ Kp w0 w5.drew w10 ∧
 ah w10 (some ⟨w, 7, none⟩) 0 [a0_7] ∧ R (.returned x11) w10)))))))
theorem xc.vc {a0_0 a0_1 a0_2 a0_3 a0_4 a0_5 a0_6 a0_7 a1_0 a1_1 a1_2 w} (h : xc.pre a0_0 a0_1 a0_2 a0_3 a0_4 a0_5 a0_6 a0_7 a1_0 a1_1 a1_2 w R) : Calls Tryz.prog wZ #[.agg #[a0_0, a0_1, a0_2, a0_3, a0_4, a0_5, a0_6, a0_7], .agg #[a1_0, a1_1, a1_2]] w R :=
 cq ⟨[], [], []⟩ Tryz.func22 h
def tY.pre (a0 a1 a2 : Int) (w : World) (R : Ending → World → Prop) : Prop :=
 ∀ w0 : World, w0 = w.alloc (.cells #[(0:Int), (0:Int), (0:Int), (0:Int), (0:Int), .slice none 0 0, .slice none 0 0, .slice none 0 0] 30) →
 Calls Tryz.prog oM #[a2] w0 (fun e w1 => ∃ (x2 x3 x4 : Int) (s5 s6 : Sl), e = .returned (.agg #[x2, x3, x4, s5, s6]) ∧ Kp w w0 w1 ∧
 ∀ w7 : World, w7 = w1.setRow w #[a0, .int .i64 (if 16 < (if 1 > a1 then 1 else a1) then 16 else (if 1 > a1 then 1 else a1)), x2, x3, x4, s5, s6, .slice none 0 0] →
 R (.returned (.agg #[a0, .int .i64 (if 16 < (if 1 > a1 then 1 else a1) then 16 else (if 1 > a1 then 1 else a1)), x2, x3, x4, s5, s6, .slice none 0 0])) w7)
theorem tY.vc {a0 a1 a2 w} (h : tY.pre a0 a1 a2 w R) : Calls Tryz.prog uZ #[a0, a1, a2] w R :=
 cq ⟨[], [], []⟩ Tryz.func68 h
def qW.pre (a0_0 a0_1 a0_2 a0_3 a0_4 : Int) (a0_5 a0_6 a0_7 : Sl) (a1_0 a1_1 : Int) (w : World) (R : Ending → World → Prop) : Prop :=
 ∀ w0 : World, w0 = w.alloc (.cells #[a0_0, a0_1, a0_2, a0_3, a0_4, a0_5, a0_6, a0_7] 30) →
 ∀ w1 : World, w1 = w0.alloc (.cells #[a1_0, a1_1] 89) →
 ∀ w2 : World, w2 = w1.alloc (.cells #[(0:Int), (0:Int), (0:Int), (0:Int), (0:Int), .slice none 0 0, .slice none 0 0, .slice none 0 0] 30) →
 Calls Tryz.prog 76 #[.agg #[a1_0, a1_1]] w2 (fun e w3 => ∃ (x4 : Int), e = .returned x4 ∧ Kp w w2 w3 ∧ Kp w0 w2 w3 ∧ Kp w1 w2 w3 ∧
 Br (x4 == 0)
 (∀ w5 : World, w5 = w3.setRow w1 #[a0_0, a0_1, a0_2, a0_3, a0_4, a0_5, a0_6, a0_7] →
 R (.returned (.tuple #[.agg #[a0_0, a0_1, a0_2, a0_3, a0_4, a0_5, a0_6, a0_7], (5:Int)])) w5)
 (Calls Tryz.prog fR #[.agg #[a0_0, a0_1, a0_2, a0_3, a0_4, a0_5, a0_6, a0_7], .agg #[a1_0, a1_1]] w3 (fun e w6 => ∃ (x7 : Int), e = .returned x7 ∧ Kp w w3 w6 ∧ Kp w0 w3 w6 ∧ Kp w1 w3 w6 ∧
 Br (decide (x7 ≥ 0))
 (bA a0_7.a x7 a0_7.n ∧ ∃ (x8 x9 : Int) (s10 : Sl) (CR : Bool) (x12 : Int), ah w6 (ab a0_7.a ((x7 : Int).toNat * 5)) 0 [x8, x9, s10, .bool CR, x12] ∧
 ∀ w13 : World, w13 = w6.alloc (.cells #[(0:Int), (0:Int), .slice none 0 0, .bool false, (0:Int)] 110) →
 ∀ w14 : World, w14 = w13.setRow w6 #[x8, x9, s10, .bool CR, x12] →
 Calls Tryz.prog bR #[.agg #[a0_0, a0_1, a0_2, a0_3, a0_4, a0_5, a0_6, a0_7], x7] w14.drew (fun e w15 => ∃ (x16 x17 x18 x19 x20 : Int) (s21 s22 s23 : Sl), e = .returned (.agg #[x16, x17, x18, x19, x20, s21, s22, s23]) ∧ Kp w w14.drew w15 ∧ Kp w0 w14.drew w15 ∧ Kp w1 w14.drew w15 ∧ Kp w6 w14.drew w15 ∧
 ah w15 (some ⟨w6, 0, none⟩) 0 [x8, x9, s10, .bool CR, x12] ∧ Calls Tryz.prog bt #[.agg #[x16, x17, x18, x19, x20, s21, s22, s23], .agg #[x8, x9, s10, .bool CR, x12]] w15 (fun e w24 => ∃ (x25 x26 x27 x28 x29 : Int) (s30 s31 s32 : Sl), e = .returned (.agg #[x25, x26, x27, x28, x29, s30, s31, s32]) ∧ Kp w w15 w24 ∧ Kp w0 w15 w24 ∧ Kp w1 w15 w24 ∧ Kp w6 w15 w24 ∧
 ∀ w33 : World, w33 = w24.setRow w1 #[x25, x26, x27, x28, x29, s30, s31, s32] →
 R (.returned (.tuple #[.agg #[x25, x26, x27, x28, x29, s30, s31, s32], (0:Int)])) w33)))
 (Br (decide ((((a0_7.n : Nat) : Int) : Int) ≥ a0_1))
 (∃ I34 : Nat → Int → Int → World → Prop,
 (∃ n35, aT [a0_0, a0_1, a0_2, a0_3, a0_4, a0_5, a0_6, a0_7] ∧ aT [a1_0, a1_1] ∧ aT [(0:Int), (0:Int), (0:Int), (0:Int), (0:Int), .slice none 0 0, .slice none 0 0, .slice none 0 0] ∧ I34 n35 ((IntKind.wrap .i64 (((a0_7.n : Nat) : Int) - 1))) ((-1)) w6) ∧
 ∀ (n35 : Nat) (us36 : Nat → Value) (x37 x38 : Int) (w39 : World), I34 n35 x37 x38 w39 →
 Br (decide (x37 ≥ 0))
 (bA a0_7.a x37 a0_7.n ∧ aK (ep (ab a0_7.a ((x37 : Int).toNat * 5))) (∃ (x41 : Int), ld w39 (ab (ab a0_7.a ((x37 : Int).toNat * 5)) 4) = some (.int .i64 x41) ∧
 Br (x41 == 0)
 (∃ n40, n40 < n35 ∧ aT [a0_0, a0_1, a0_2, a0_3, a0_4, a0_5, a0_6, a0_7] ∧ aT [a1_0, a1_1] ∧ aT [(0:Int), (0:Int), (0:Int), (0:Int), (0:Int), .slice none 0 0, .slice none 0 0, .slice none 0 0] ∧ I34 n40 ((IntKind.wrap .i64 (x37 - 1))) x37 w39)
 (∃ n40, n40 < n35 ∧ aT [a0_0, a0_1, a0_2, a0_3, a0_4, a0_5, a0_6, a0_7] ∧ aT [a1_0, a1_1] ∧ aT [(0:Int), (0:Int), (0:Int), (0:Int), (0:Int), .slice none 0 0, .slice none 0 0, .slice none 0 0] ∧ I34 n40 ((IntKind.wrap .i64 (x37 - 1))) x38 w39)))
 (Br (decide (x38 < 0))
 (∀ w42 : World, w42 = w39.setRow w1 #[a0_0, a0_1, a0_2, a0_3, a0_4, a0_5, a0_6, a0_7] →
 R (.returned (.tuple #[.agg #[a0_0, a0_1, a0_2, a0_3, a0_4, a0_5, a0_6, a0_7], (8:Int)])) w42)
 (Calls Tryz.prog An #[.agg #[a0_0, a0_1, a0_2, a0_3, a0_4, a0_5, a0_6, a0_7], x38] w39 (fun e w43 => ∃ (x44 x45 x46 x47 x48 : Int) (s49 s50 s51 : Sl) (x52 : Int), e = .returned (.tuple #[.agg #[x44, x45, x46, x47, x48, s49, s50, s51], x52]) ∧ Kp w w39 w43 ∧ Kp w0 w39 w43 ∧ Kp w1 w39 w43 ∧
 ∀ w53 : World, w53 = w43.alloc (.cells #[(0:Int), (0:Int), (0:Int), (0:Int), (0:Int), .slice none 0 0, .slice none 0 0, .slice none 0 0] 30) →
 ∀ w54 : World, w54 = w53.setRow w43 #[x44, x45, x46, x47, x48, s49, s50, s51] →
 Br (x52 != 0)
 (∀ w55 : World, w55 = w54.setRow w1 #[x44, x45, x46, x47, x48, s49, s50, s51] →
 R (.returned (.tuple #[.agg #[x44, x45, x46, x47, x48, s49, s50, s51], x52])) w55)
 (Calls Tryz.prog bR #[.agg #[x44, x45, x46, x47, x48, s49, s50, s51], x38] w54 (fun e w56 => ∃ (x57 x58 x59 x60 x61 : Int) (s62 s63 s64 : Sl), e = .returned (.agg #[x57, x58, x59, x60, x61, s62, s63, s64]) ∧ Kp w w54 w56 ∧ Kp w0 w54 w56 ∧ Kp w1 w54 w56 ∧ Kp w43 w54 w56 ∧
 ∀ w65 : World, w65 = w56.setRow w #[x57, x58, x59, x60, x61, s62, s63, s64] →
 Calls Tryz.prog jf #[.agg #[x59, x60, x61, s62, s63], x4] w65 (fun e w66 => ∃ (s67 : Sl) (x68 : Int) (b69 : Bool), e = .returned (.tuple #[s67, x68, .bool b69]) ∧ Kp w w65 w66 ∧ Kp w0 w65 w66 ∧ Kp w1 w65 w66 ∧ Kp w43 w65 w66 ∧
 Calls Tryz.prog 81 #[.agg #[a1_0, a1_1], s67] w66 (fun e w70 => ∃ (x71 x72 : Int) (s73 : Sl) (x74 : Int), e = .returned (.tuple #[.agg #[x71, x72, s73], x74]) ∧ Kp w w66 w70 ∧ Kp w0 w66 w70 ∧ Kp w1 w66 w70 ∧ Kp w43 w66 w70 ∧
 ∀ w75 : World, w75 = w70.alloc (.cells #[(0:Int), (0:Int), .slice none 0 0] 108) →
 ∀ w76 : World, w76 = w75.setRow w70 #[x71, x72, s73] →
 Br (x74 != 0)
 (Calls Tryz.prog 82 #[x57, .agg #[a1_0, a1_1]] w76 (fun e w77 => ∃ (x78 x79 : Int) (s80 : Sl), e = .returned (.agg #[x78, x79, s80]) ∧ Kp w w76 w77 ∧ Kp w0 w76 w77 ∧ Kp w1 w76 w77 ∧ Kp w43 w76 w77 ∧ Kp w70 w76 w77 ∧
 ∀ w81 : World, w81 = w77.setRow w70 #[x78, x79, s80] →
 Calls Tryz.prog bt #[.agg #[x57, x58, x59, x60, x61, s62, s63, s64], .agg #[x78, x79, s80, .bool false, (0:Int)]] w81 (fun e w82 => ∃ (x83 x84 x85 x86 x87 : Int) (s88 s89 s90 : Sl), e = .returned (.agg #[x83, x84, x85, x86, x87, s88, s89, s90]) ∧ Kp w w81 w82 ∧ Kp w0 w81 w82 ∧ Kp w1 w81 w82 ∧ Kp w43 w81 w82 ∧ Kp w70 w81 w82 ∧
 ∀ w91 : World, w91 = w82.setRow w1 #[x83, x84, x85, x86, x87, s88, s89, s90] →
 R (.returned (.tuple #[.agg #[x83, x84, x85, x86, x87, s88, s89, s90], (0:Int)])) w91)))
 (Calls Tryz.prog bt #[.agg #[x57, x58, x59, x60, x61, s62, s63, s64], .agg #[x71, x72, s73, .bool false, (0:Int)]] w76 (fun e w92 => ∃ (x93 x94 x95 x96 x97 : Int) (s98 s99 s100 : Sl), e = .returned (.agg #[x93, x94, x95, x96, x97, s98, s99, s100]) ∧ Kp w w76 w92 ∧ Kp w0 w76 w92 ∧ Kp w1 w76 w92 ∧ Kp w43 w76 w92 ∧ Kp w70 w76 w92 ∧
 ∀ w101 : World, w101 = w92.setRow w1 #[x93, x94, x95, x96, x97, s98, s99, s100] →
 R (.returned (.tuple #[.agg #[x93, x94, x95, x96, x97, s98, s99, s100], (0:Int)])) w101))))))))))
 (Calls Tryz.prog jf #[.agg #[a0_2, a0_3, a0_4, a0_5, a0_6], x4] w6 (fun e w102 => ∃ (s103 : Sl) (x104 : Int) (b105 : Bool), e = .returned (.tuple #[s103, x104, .bool b105]) ∧ Kp w w6 w102 ∧ Kp w0 w6 w102 ∧ Kp w1 w6 w102 ∧
 Calls Tryz.prog 81 #[.agg #[a1_0, a1_1], s103] w102 (fun e w106 => ∃ (x107 x108 : Int) (s109 : Sl) (x110 : Int), e = .returned (.tuple #[.agg #[x107, x108, s109], x110]) ∧ Kp w w102 w106 ∧ Kp w0 w102 w106 ∧ Kp w1 w102 w106 ∧
 ∀ w111 : World, w111 = w106.alloc (.cells #[(0:Int), (0:Int), .slice none 0 0] 108) →
 ∀ w112 : World, w112 = w111.setRow w106 #[x107, x108, s109] →
 Br (x110 != 0)
 (Calls Tryz.prog 82 #[a0_0, .agg #[a1_0, a1_1]] w112 (fun e w113 => ∃ (x114 x115 : Int) (s116 : Sl), e = .returned (.agg #[x114, x115, s116]) ∧ Kp w w112 w113 ∧ Kp w0 w112 w113 ∧ Kp w1 w112 w113 ∧ Kp w106 w112 w113 ∧
 ∀ w117 : World, w117 = w113.setRow w106 #[x114, x115, s116] →
 Calls Tryz.prog bt #[.agg #[a0_0, a0_1, a0_2, a0_3, a0_4, a0_5, a0_6, a0_7], .agg #[x114, x115, s116, .bool false, (0:Int)]] w117 (fun e w118 => ∃ (x119 x120 x121 x122 x123 : Int) (s124 s125 s126 : Sl), e = .returned (.agg #[x119, x120, x121, x122, x123, s124, s125, s126]) ∧ Kp w w117 w118 ∧ Kp w0 w117 w118 ∧ Kp w1 w117 w118 ∧ Kp w106 w117 w118 ∧
 ∀ w127 : World, w127 = w118.setRow w1 #[x119, x120, x121, x122, x123, s124, s125, s126] →
 R (.returned (.tuple #[.agg #[x119, x120, x121, x122, x123, s124, s125, s126], (0:Int)])) w127)))
 (Calls Tryz.prog bt #[.agg #[a0_0, a0_1, a0_2, a0_3, a0_4, a0_5, a0_6, a0_7], .agg #[x107, x108, s109, .bool false, (0:Int)]] w112 (fun e w128 => ∃ (x129 x130 x131 x132 x133 : Int) (s134 s135 s136 : Sl), e = .returned (.agg #[x129, x130, x131, x132, x133, s134, s135, s136]) ∧ Kp w w112 w128 ∧ Kp w0 w112 w128 ∧ Kp w1 w112 w128 ∧ Kp w106 w112 w128 ∧
 ∀ w137 : World, w137 = w128.setRow w1 #[x129, x130, x131, x132, x133, s134, s135, s136] →
 R (.returned (.tuple #[.agg #[x129, x130, x131, x132, x133, s134, s135, s136], (0:Int)])) w137)))))))))
theorem qW.vc {a0_0 a0_1 a0_2 a0_3 a0_4 a0_5 a0_6 a0_7 a1_0 a1_1 w} (h : qW.pre a0_0 a0_1 a0_2 a0_3 a0_4 a0_5 a0_6 a0_7 a1_0 a1_1 w R) : Calls Tryz.prog sk #[.agg #[a0_0, a0_1, a0_2, a0_3, a0_4, a0_5, a0_6, a0_7], .agg #[a1_0, a1_1]] w R :=
 cq ⟨[(11, ⟨[(10, .int .i64), (9, .int .i64)], [], []⟩)], [], []⟩ Tryz.func39 h
def qX.pre (a0_0 a0_1 a0_2 a0_3 a0_4 : Int) (a0_5 a0_6 a0_7 : Sl) (a1_0 a1_1 : Int) (w : World) (R : Ending → World → Prop) : Prop :=
 ∀ w0 : World, w0 = w.alloc (.cells #[a0_0, a0_1, a0_2, a0_3, a0_4, a0_5, a0_6, a0_7] 30) →
 ∀ w1 : World, w1 = w0.alloc (.cells #[a1_0, a1_1] 89) →
 ∃ I2 : Nat → Int → World → Prop,
 (∃ n3, aT [a0_0, a0_1, a0_2, a0_3, a0_4, a0_5, a0_6, a0_7] ∧ aT [a1_0, a1_1] ∧ I2 n3 (0) w1) ∧
 ∀ (n3 : Nat) (us4 : Nat → Value) (x5 : Int) (w6 : World), I2 n3 x5 w6 →
 Br (decide (x5 < ((a0_7.n : Nat) : Int)))
 (bA a0_7.a x5 a0_7.n ∧ aK (ep (ab a0_7.a ((x5 : Int).toNat * 5))) (aK (ep (ab (ab a0_7.a ((x5 : Int).toNat * 5)) 0)) (∃ (x8 x9 : Int), ah w6.drew (ab (ab (ab a0_7.a ((x5 : Int).toNat * 5)) 0) 0) 0 [x8, x9] ∧
 Br ((x8 == a1_0) && (x9 == a1_1))
 (R (.returned x5) w6.drew)
 (∃ n7, n7 < n3 ∧ aT [a0_0, a0_1, a0_2, a0_3, a0_4, a0_5, a0_6, a0_7] ∧ aT [a1_0, a1_1] ∧ I2 n7 ((IntKind.wrap .i64 (x5 + 1))) w6.drew))))
 (R (.returned (.int .i64 (-1))) w6)
theorem qX.vc {a0_0 a0_1 a0_2 a0_3 a0_4 a0_5 a0_6 a0_7 a1_0 a1_1 w} (h : qX.pre a0_0 a0_1 a0_2 a0_3 a0_4 a0_5 a0_6 a0_7 a1_0 a1_1 w R) : Calls Tryz.prog fR #[.agg #[a0_0, a0_1, a0_2, a0_3, a0_4, a0_5, a0_6, a0_7], .agg #[a1_0, a1_1]] w R :=
 cq ⟨[(2, ⟨[(5, .int .i64)], [], []⟩)], [], []⟩ Tryz.func49 h
def tZ.pre (a0 : Int) (w : World) (R : Ending → World → Prop) : Prop :=
 ∀ w0 : World, w0 = w.alloc (.cells #[(0:Int), (0:Int), (0:Int), .slice none 0 0, .slice none 0 0] 27) →
 ∀ w1 : World, w1 = w0.setRow w #[.int .i64 (if 1048576 < (if 0 > a0 then 0 else a0) then 1048576 else (if 0 > a0 then 0 else a0)), (0:Int), (0:Int), .slice none 0 0, .slice none 0 0] →
 R (.returned (.agg #[.int .i64 (if 1048576 < (if 0 > a0 then 0 else a0) then 1048576 else (if 0 > a0 then 0 else a0)), (0:Int), (0:Int), .slice none 0 0, .slice none 0 0])) w1
theorem tZ.vc {a0 w} (h : tZ.pre a0 w R) : Calls Tryz.prog oM #[a0] w R :=
 cq ⟨[], [], []⟩ Tryz.func112 h
def ua.pre (a0_0 a0_1 a0_2 a0_3 a0_4 : Int) (a0_5 a0_6 a0_7 : Sl) (a1_0 a1_1 a1_2 a2 : Int) (w : World) (R : Ending → World → Prop) : Prop :=
 ∀ w0 : World, w0 = w.alloc (.cells #[a0_0, a0_1, a0_2, a0_3, a0_4, a0_5, a0_6, a0_7] 30) →
 ∀ w1 : World, w1 = w0.alloc (.cells #[a1_0, a1_1, a1_2] 23) →
 ∀ w2 : World, w2 = w1.alloc (.cells #[(0:Int), (0:Int), (0:Int), (0:Int), (0:Int), .slice none 0 0, .slice none 0 0, .slice none 0 0] 30) →
 Calls Tryz.prog 50 #[.agg #[a1_0, a1_1, a1_2]] w2.drew (fun e w3 => ∃ (x4 x5 : Int), e = .returned (.agg #[x4, x5]) ∧ Kp w w2.drew w3 ∧ Kp w0 w2.drew w3 ∧ Kp w1 w2.drew w3 ∧
 ah w3 (some ⟨w, 0, none⟩) 0 [a0_0, a0_1, a0_2, a0_3, a0_4, a0_5, a0_6, a0_7] ∧ Calls Tryz.prog fR #[.agg #[a0_0, a0_1, a0_2, a0_3, a0_4, a0_5, a0_6, a0_7], .agg #[x4, x5]] w3 (fun e w6 => ∃ (x7 : Int), e = .returned x7 ∧ Kp w w3 w6 ∧ Kp w0 w3 w6 ∧ Kp w1 w3 w6 ∧
 Calls Tryz.prog 146 #[a2] w6 (fun e w8 => ∃ (b9 : Bool), e = .returned (.bool b9) ∧ Kp w w6 w8 ∧ Kp w0 w6 w8 ∧ Kp w1 w6 w8 ∧
 Br (decide (x7 < 0))
 (∀ w10 : World, w10 = w8.setRow w1 #[a0_0, a0_1, a0_2, a0_3, a0_4, a0_5, a0_6, a0_7] →
 R (.returned (.tuple #[.agg #[a0_0, a0_1, a0_2, a0_3, a0_4, a0_5, a0_6, a0_7], (11:Int)])) w10)
 (Br (decide (a1_1 < 0))
 (∀ w11 : World, w11 = w8.setRow w1 #[a0_0, a0_1, a0_2, a0_3, a0_4, a0_5, a0_6, a0_7] →
 R (.returned (.tuple #[.agg #[a0_0, a0_1, a0_2, a0_3, a0_4, a0_5, a0_6, a0_7], (5:Int)])) w11)
 (Br (decide (a1_1 > 31))
 (∀ w12 : World, w12 = w8.setRow w1 #[a0_0, a0_1, a0_2, a0_3, a0_4, a0_5, a0_6, a0_7] →
 R (.returned (.tuple #[.agg #[a0_0, a0_1, a0_2, a0_3, a0_4, a0_5, a0_6, a0_7], (5:Int)])) w12)
 (Br (!b9)
 (∀ w13 : World, w13 = w8.setRow w1 #[a0_0, a0_1, a0_2, a0_3, a0_4, a0_5, a0_6, a0_7] →
 R (.returned (.tuple #[.agg #[a0_0, a0_1, a0_2, a0_3, a0_4, a0_5, a0_6, a0_7], (1:Int)])) w13)
 (bA a0_7.a x7 a0_7.n ∧ ∃ (x14 x15 : Int) (s16 : Sl) (b17 : Bool) (x18 : Int), ah w8 (ab a0_7.a ((x7 : Int).toNat * 5)) 0 [x14, x15, s16, .bool b17, x18] ∧
 ∀ w19 : World, w19 = w8.alloc (.cells #[(0:Int), (0:Int), .slice none 0 0, .bool false, (0:Int)] 110) →
 ∀ w20 : World, w20 = w19.setRow w8 #[x14, x15, s16, .bool b17, x18] →
 Br b17
 (∀ w21 : World, w21 = w20.setRow w8 #[x14, x15, s16, .bool true, x18] →
 Calls Tryz.prog 147 #[.agg #[x14, x15, s16], .agg #[a1_0, a1_1, a1_2], a2] w21 (fun e w22 => ∃ (x23 x24 : Int) (s25 : Sl) (x26 : Int), e = .returned (.tuple #[.agg #[x23, x24, s25], x26]) ∧ Kp w w21 w22 ∧ Kp w0 w21 w22 ∧ Kp w1 w21 w22 ∧ Kp w8 w21 w22 ∧
 ∀ w27 : World, w27 = w22.alloc (.cells #[(0:Int), (0:Int), .slice none 0 0] 108) →
 ∀ w28 : World, w28 = w27.setRow w22 #[x23, x24, s25] →
 ∀ w29 : World, w29 = w28.setRow w8 #[x23, x24, s25, .bool true, x18] →
 Calls Tryz.prog bR #[.agg #[a0_0, a0_1, a0_2, a0_3, a0_4, a0_5, a0_6, a0_7], x7] w29.drew (fun e w30 => ∃ (x31 x32 x33 x34 x35 : Int) (s36 s37 s38 : Sl), e = .returned (.agg #[x31, x32, x33, x34, x35, s36, s37, s38]) ∧ Kp w w29.drew w30 ∧ Kp w0 w29.drew w30 ∧ Kp w1 w29.drew w30 ∧ Kp w8 w29.drew w30 ∧ Kp w22 w29.drew w30 ∧
 ah w30 (some ⟨w8, 0, none⟩) 0 [x23, x24, s25, .bool true, x18] ∧ Calls Tryz.prog bt #[.agg #[x31, x32, x33, x34, x35, s36, s37, s38], .agg #[x23, x24, s25, .bool true, x18]] w30 (fun e w39 => ∃ (x40 x41 x42 x43 x44 : Int) (s45 s46 s47 : Sl), e = .returned (.agg #[x40, x41, x42, x43, x44, s45, s46, s47]) ∧ Kp w w30 w39 ∧ Kp w0 w30 w39 ∧ Kp w1 w30 w39 ∧ Kp w8 w30 w39 ∧ Kp w22 w30 w39 ∧
 ∀ w48 : World, w48 = w39.setRow w1 #[x40, x41, x42, x43, x44, s45, s46, s47] →
 R (.returned (.tuple #[.agg #[x40, x41, x42, x43, x44, s45, s46, s47], (0:Int)])) w48))))
 (Calls Tryz.prog 51 #[.agg #[x14, x15, s16], .agg #[a1_0, a1_1, a1_2]] w20 (fun e w49 => ∃ (x50 : Int), e = .returned x50 ∧ Kp w w20 w49 ∧ Kp w0 w20 w49 ∧ Kp w1 w20 w49 ∧ Kp w8 w20 w49 ∧
 ∀ w51 : World, w51 = w49.setRow w8 #[x14, x15, s16, .bool (x50 != a2), x18] →
 Calls Tryz.prog 147 #[.agg #[x14, x15, s16], .agg #[a1_0, a1_1, a1_2], a2] w51 (fun e w52 => ∃ (x53 x54 : Int) (s55 : Sl) (x56 : Int), e = .returned (.tuple #[.agg #[x53, x54, s55], x56]) ∧ Kp w w51 w52 ∧ Kp w0 w51 w52 ∧ Kp w1 w51 w52 ∧ Kp w8 w51 w52 ∧
 ∀ w57 : World, w57 = w52.alloc (.cells #[(0:Int), (0:Int), .slice none 0 0] 108) →
 ∀ w58 : World, w58 = w57.setRow w52 #[x53, x54, s55] →
 ∀ w59 : World, w59 = w58.setRow w8 #[x53, x54, s55, .bool (x50 != a2), x18] →
 Calls Tryz.prog bR #[.agg #[a0_0, a0_1, a0_2, a0_3, a0_4, a0_5, a0_6, a0_7], x7] w59.drew (fun e w60 => ∃ (x61 x62 x63 x64 x65 : Int) (s66 s67 s68 : Sl), e = .returned (.agg #[x61, x62, x63, x64, x65, s66, s67, s68]) ∧ Kp w w59.drew w60 ∧ Kp w0 w59.drew w60 ∧ Kp w1 w59.drew w60 ∧ Kp w8 w59.drew w60 ∧ Kp w52 w59.drew w60 ∧
 ah w60 (some ⟨w8, 0, none⟩) 0 [x53, x54, s55, .bool (x50 != a2), x18] ∧ Calls Tryz.prog bt #[.agg #[x61, x62, x63, x64, x65, s66, s67, s68], .agg #[x53, x54, s55, .bool (x50 != a2), x18]] w60 (fun e w69 => ∃ (x70 x71 x72 x73 x74 : Int) (s75 s76 s77 : Sl), e = .returned (.agg #[x70, x71, x72, x73, x74, s75, s76, s77]) ∧ Kp w w60 w69 ∧ Kp w0 w60 w69 ∧ Kp w1 w60 w69 ∧ Kp w8 w60 w69 ∧ Kp w52 w60 w69 ∧
 ∀ w78 : World, w78 = w69.setRow w1 #[x70, x71, x72, x73, x74, s75, s76, s77] →
 R (.returned (.tuple #[.agg #[x70, x71, x72, x73, x74, s75, s76, s77], (0:Int)])) w78))))))))))))
theorem ua.vc {a0_0 a0_1 a0_2 a0_3 a0_4 a0_5 a0_6 a0_7 a1_0 a1_1 a1_2 a2 w} (h : ua.pre a0_0 a0_1 a0_2 a0_3 a0_4 a0_5 a0_6 a0_7 a1_0 a1_1 a1_2 a2 w R) : Calls Tryz.prog u4 #[.agg #[a0_0, a0_1, a0_2, a0_3, a0_4, a0_5, a0_6, a0_7], .agg #[a1_0, a1_1, a1_2], a2] w R :=
 cq ⟨[], [], []⟩ Tryz.func99 h
def qU.pre (a0_0 a0_1 a0_2 : Int) (a0_3 a0_4 : Sl) (a1 : Int) (w : World) (R : Ending → World → Prop) : Prop :=
 ∀ w0 : World, w0 = w.alloc (.cells #[a0_0, a0_1, a0_2, a0_3, a0_4] 27) →
 Br (decide (a1 < 0))
 (R (.returned (.tuple #[.slice none 0 0, (0:Int), .bool false])) w0)
 (Br (decide (a1 > 1099511627776))
 (R (.returned (.tuple #[.slice none 0 0, (0:Int), .bool false])) w0)
 (Calls Tryz.prog qT #[.agg #[a0_0, a0_1, a0_2, a0_3, a0_4], a1] w0 (fun e w1 => ∃ (x2 x3 : Int) (s4 : Sl), e = .returned (.tuple #[x2, x3, s4]) ∧ Kp w w0 w1 ∧
 R (.returned (.tuple #[s4, x3, .bool (decide (x3 > 0))])) w1)))
theorem qU.vc {a0_0 a0_1 a0_2 a0_3 a0_4 a1 w} (h : qU.pre a0_0 a0_1 a0_2 a0_3 a0_4 a1 w R) : Calls Tryz.prog jf #[.agg #[a0_0, a0_1, a0_2, a0_3, a0_4], a1] w R :=
 cq ⟨[], [], []⟩ Tryz.func80 h
def qY.pre (a0_0 a0_1 a0_2 a0_3 a0_4 : Int) (a0_5 a0_6 a0_7 : Sl) (a1_0 a1_1 : Int) (a1_2 : Sl) (a1_3 : Bool) (a1_4 : Int) (w : World) (R : Ending → World → Prop) : Prop :=
 ∀ w0 : World, w0 = w.alloc (.cells #[a0_0, a0_1, a0_2, a0_3, a0_4, a0_5, a0_6, a0_7] 30) →
 ∀ w1 : World, w1 = w0.alloc (.cells #[a1_0, a1_1, a1_2, .bool a1_3, a1_4] 110) →
 ∀ w2 : World, w2 = w1.alloc (.cells #[(0:Int), (0:Int), (0:Int), (0:Int), (0:Int), .slice none 0 0, .slice none 0 0, .slice none 0 0] 30) →
 ∃ l3 : List Value, Rd w2 a0_7.a l3 ∧ au 56 5 w2 ⟨none, 0, 0⟩ a0_7.n l3 ∧ ∀ (s4 : Sl) (w5 : World), aq 110 5 w2 ⟨none, 0, 0⟩ a0_7.n l3 s4 w5 → Kp w w2 w5 ∧ Kp w0 w2 w5 ∧ Kp w1 w2 w5 ∧
 ∀ w6 : World, w6 = w5.alloc (.cells #[a1_0, a1_1, a1_2, .bool a1_3, a1_4] 110) →
 au 56 5 w6 s4 1 [a1_0, a1_1, a1_2, .bool a1_3, a1_4] ∧ ∀ (s7 : Sl) (w8 : World), aq 110 5 w6 s4 1 [a1_0, a1_1, a1_2, .bool a1_3, a1_4] s7 w8 → Kp w w6 w8 ∧ Kp w0 w6 w8 ∧ Kp w1 w6 w8 ∧ Kp w5 w6 w8 ∧
 ∀ w9 : World, w9 = w8.setRow w #[a0_0, a0_1, a0_2, a0_3, a0_4, a0_5, a0_6, s7] →
 ∀ w10 : World, w10 = w9.setRow w1 #[a0_0, a0_1, a0_2, a0_3, a0_4, a0_5, a0_6, s7] →
 R (.returned (.agg #[a0_0, a0_1, a0_2, a0_3, a0_4, a0_5, a0_6, s7])) w10
theorem qY.vc {a0_0 a0_1 a0_2 a0_3 a0_4 a0_5 a0_6 a0_7 a1_0 a1_1 a1_2 a1_3 a1_4 w} (h : qY.pre a0_0 a0_1 a0_2 a0_3 a0_4 a0_5 a0_6 a0_7 a1_0 a1_1 a1_2 a1_3 a1_4 w R) : Calls Tryz.prog bt #[.agg #[a0_0, a0_1, a0_2, a0_3, a0_4, a0_5, a0_6, a0_7], .agg #[a1_0, a1_1, a1_2, .bool a1_3, a1_4]] w R :=
 cq ⟨[], [], []⟩ Tryz.func77 h
def k7.pre (a0_0 a0_1 a0_2 a0_3 a0_4 : Int) (a0_5 a0_6 a0_7 : Sl) (a1 : Int) (w : World) (R : Ending → World → Prop) : Prop :=
 ∀ w0 : World, w0 = w.alloc (.cells #[a0_0, a0_1, a0_2, a0_3, a0_4, a0_5, a0_6, a0_7] 30) →
 ∀ w1 : World, w1 = w0.alloc (.cells #[(0:Int), (0:Int), (0:Int), (0:Int), (0:Int), .slice none 0 0, .slice none 0 0, .slice none 0 0] 30) →
 (0 : Int) ≤ a1 ∧ a1 ≤ ((a0_7.c : Nat) : Int) ∧ ∃ l2 : List Value, Rd w1 (ai a0_7.a (0) (a0_7.c) 5) l2 ∧ au 56 5 w1 ⟨none, 0, 0⟩ ((a1 : Int).toNat - 0) l2 ∧ ∀ (s3 : Sl) (w4 : World), aq 110 5 w1 ⟨none, 0, 0⟩ ((a1 : Int).toNat - 0) l2 s3 w4 → Kp w w1 w4 ∧ Kp w0 w1 w4 ∧
 (0 : Int) ≤ (IntKind.wrap .i64 (a1 + 1)) ∧ (IntKind.wrap .i64 (a1 + 1)) ≤ ((a0_7.n : Nat) : Int) ∧ ∃ l5 : List Value, Rd w4 (ai a0_7.a (((IntKind.wrap .i64 (a1 + 1)) : Int).toNat) (a0_7.c) 5) l5 ∧ au 56 5 w4 s3 (a0_7.n - ((IntKind.wrap .i64 (a1 + 1)) : Int).toNat) l5 ∧ ∀ (s6 : Sl) (w7 : World), aq 110 5 w4 s3 (a0_7.n - ((IntKind.wrap .i64 (a1 + 1)) : Int).toNat) l5 s6 w7 → Kp w w4 w7 ∧ Kp w0 w4 w7 ∧
 ∀ w8 : World, w8 = w7.setRow w #[a0_0, a0_1, a0_2, a0_3, a0_4, a0_5, a0_6, s6] →
 ∀ w9 : World, w9 = w8.setRow w0 #[a0_0, a0_1, a0_2, a0_3, a0_4, a0_5, a0_6, s6] →
 R (.returned (.agg #[a0_0, a0_1, a0_2, a0_3, a0_4, a0_5, a0_6, s6])) w9
theorem k7.vc {a0_0 a0_1 a0_2 a0_3 a0_4 a0_5 a0_6 a0_7 a1 w} (h : k7.pre a0_0 a0_1 a0_2 a0_3 a0_4 a0_5 a0_6 a0_7 a1 w R) : Calls Tryz.prog bR #[.agg #[a0_0, a0_1, a0_2, a0_3, a0_4, a0_5, a0_6, a0_7], a1] w R :=
 cq ⟨[], [], []⟩ Tryz.func78 h
def wX.pre (a0_0 a0_1 a0_2 : Int) (a0_3 a0_4 : Sl) (a1 : Int) (w : World) (R : Ending → World → Prop) : Prop :=
 ∀ w0 : World, w0 = w.alloc (.cells #[a0_0, a0_1, a0_2, a0_3, a0_4] 27) →
 Calls Tryz.prog ki #[.agg #[a0_0, a0_1, a0_2, a0_3, a0_4], (IntKind.wrap .i64 (2 * a1))] w0 (fun e w1 => ∃ (s2 : Sl) (b3 : Bool), e = .returned (.tuple #[s2, .bool b3]) ∧ Kp w w0 w1 ∧
 Calls Tryz.prog ki #[.agg #[a0_0, a0_1, a0_2, a0_3, a0_4], (IntKind.wrap .i64 ((IntKind.wrap .i64 (2 * a1)) + 1))] w1 (fun e w4 => ∃ (s5 : Sl) (b6 : Bool), e = .returned (.tuple #[s5, .bool b6]) ∧ Kp w w1 w4 ∧
 Calls Tryz.prog jg #[s2] w4 (fun e w7 => ∃ (x8 : Int) (s9 : Sl) (x10 : Int), e = .returned (.tuple #[x8, s9, x10]) ∧ Kp w w4 w7 ∧
 Calls Tryz.prog jg #[s5] w7 (fun e w11 => ∃ (x12 : Int) (s13 : Sl) (x14 : Int), e = .returned (.tuple #[x12, s13, x14]) ∧ Kp w w7 w11 ∧
 Br (x10 != 0)
 (Br (x14 != 0)
 (R (.returned (.tuple #[(IntKind.wrap .i64 ((IntKind.wrap .i64 (2 * a1)) + 1)), (0:Int), .slice none 0 0])) w11)
 (Br (x14 != 0)
 (R (.returned (.tuple #[(IntKind.wrap .i64 (2 * a1)), x8, s9])) w11)
 (Br (x10 == 0)
 (Br (decide (x8 ≥ x12))
 (R (.returned (.tuple #[(IntKind.wrap .i64 (2 * a1)), x8, s9])) w11)
 (R (.returned (.tuple #[(IntKind.wrap .i64 ((IntKind.wrap .i64 (2 * a1)) + 1)), x12, s13])) w11))
 (R (.returned (.tuple #[(IntKind.wrap .i64 ((IntKind.wrap .i64 (2 * a1)) + 1)), x12, s13])) w11))))
 (Br (x14 != 0)
 (R (.returned (.tuple #[(IntKind.wrap .i64 (2 * a1)), x8, s9])) w11)
 (Br (x10 == 0)
 (Br (decide (x8 ≥ x12))
 (R (.returned (.tuple #[(IntKind.wrap .i64 (2 * a1)), x8, s9])) w11)
 (R (.returned (.tuple #[(IntKind.wrap .i64 ((IntKind.wrap .i64 (2 * a1)) + 1)), x12, s13])) w11))
 (R (.returned (.tuple #[(IntKind.wrap .i64 ((IntKind.wrap .i64 (2 * a1)) + 1)), x12, s13])) w11)))))))
theorem wX.vc {a0_0 a0_1 a0_2 a0_3 a0_4 a1 w} (h : wX.pre a0_0 a0_1 a0_2 a0_3 a0_4 a1 w R) : Calls Tryz.prog qT #[.agg #[a0_0, a0_1, a0_2, a0_3, a0_4], a1] w R :=
 cq ⟨[], [], []⟩ Tryz.func125 h
def ub.pre (a0_0 a0_1 a0_2 : Int) (a0_3 a0_4 : Sl) (a1 : Int) (w : World) (R : Ending → World → Prop) : Prop :=
 ∀ w0 : World, w0 = w.alloc (.cells #[a0_0, a0_1, a0_2, a0_3, a0_4] 27) →
 Calls Tryz.prog oN #[.agg #[a0_0, a0_1, a0_2, a0_3, a0_4]] w0 (fun e w1 => ∃ (s2 : Sl), e = .returned s2 ∧ Kp w w0 w1 ∧
 ∃ I3 : Nat → Int → World → Prop,
 (∃ n4, aT [a0_0, a0_1, a0_2, a0_3, a0_4] ∧ I3 n4 (0) w1) ∧
 ∀ (n4 : Nat) (us5 : Nat → Value) (x6 : Int) (w7 : World), I3 n4 x6 w7 →
 Br (decide (x6 < ((s2.n : Nat) : Int)))
 (bA s2.a x6 s2.n ∧ aK (ep (ab s2.a ((x6 : Int).toNat * 2))) (∃ (x9 : Int), ld w7 (ab (ab s2.a ((x6 : Int).toNat * 2)) 0) = some (.int .i64 x9) ∧
 Br (x9 == a1)
 (bA s2.a x6 s2.n ∧ aK (ep (ab s2.a ((x6 : Int).toNat * 2))) (∃ (s10 : Sl), ld w7 (ab (ab s2.a ((x6 : Int).toNat * 2)) 1) = some (.slice s10.a s10.n s10.c) ∧
 R (.returned (.tuple #[s10, .bool true])) w7))
 (∃ n8, n8 < n4 ∧ aT [a0_0, a0_1, a0_2, a0_3, a0_4] ∧ I3 n8 ((IntKind.wrap .i64 (x6 + 1))) w7)))
 (R (.returned (.tuple #[.slice none 0 0, .bool false])) w7))
theorem ub.vc {a0_0 a0_1 a0_2 a0_3 a0_4 a1 w} (h : ub.pre a0_0 a0_1 a0_2 a0_3 a0_4 a1 w R) : Calls Tryz.prog ki #[.agg #[a0_0, a0_1, a0_2, a0_3, a0_4], a1] w R :=
 cq ⟨[(3, ⟨[(7, .int .i64)], [], []⟩)], [], []⟩ Tryz.func171 h
def qZ.pre (a0 : Sl) (w : World) (R : Ending → World → Prop) : Prop :=
 Calls Tryz.prog mE #[a0] w (fun e w0 => ∃ (s1 : Sl) (x2 : Int), e = .returned (.tuple #[s1, x2]) ∧
 Br (x2 != 0)
 (R (.returned (.tuple #[(0:Int), .slice none 0 0, x2])) w0)
 (Br (decide ((((s1.n : Nat) : Int) : Int) < 7))
 (R (.returned (.tuple #[(0:Int), .slice none 0 0, (3:Int)])) w0)
 ((0 : Int) ≤ 4 ∧ 4 ≤ ((s1.c : Nat) : Int) ∧ Calls Tryz.prog kl #[.slice (ai s1.a (0) (s1.c) 1) ((4 : Int).toNat - 0) (s1.c - 0)] w0 (fun e w3 => ∃ (x4 : Int), e = .returned x4 ∧
 (0 : Int) ≤ 7 ∧ 7 ≤ ((s1.c : Nat) : Int) ∧ (0 : Int) ≤ 4 ∧ (4 : Int) ≤ 7 ∧ Calls Tryz.prog kl #[.slice (ai s1.a ((4 : Int).toNat) (s1.c) 1) ((7 : Int).toNat - (4 : Int).toNat) (s1.c - (4 : Int).toNat)] w3 (fun e w5 => ∃ (x6 : Int), e = .returned x6 ∧
 Br (decide (x4 < 1))
 (R (.returned (.tuple #[(0:Int), .slice none 0 0, (2:Int)])) w5)
 (Br (decide (x4 > 1073741824))
 (R (.returned (.tuple #[(0:Int), .slice none 0 0, (2:Int)])) w5)
 (Br (decide (x6 > 65536))
 (R (.returned (.tuple #[(0:Int), .slice none 0 0, (2:Int)])) w5)
 (Br (x6 != (IntKind.wrap .i64 (((s1.n : Nat) : Int) - 7)))
 (R (.returned (.tuple #[(0:Int), .slice none 0 0, (2:Int)])) w5)
 ((0 : Int) ≤ 7 ∧ 7 ≤ ((s1.n : Nat) : Int) ∧ R (.returned (.tuple #[x4, .slice (ai s1.a ((7 : Int).toNat) (s1.c) 1) (s1.n - (7 : Int).toNat) (s1.c - (7 : Int).toNat), (0:Int)])) w5.drew)))))))))
theorem qZ.vc {a0 w} (h : qZ.pre a0 w R) : Calls Tryz.prog jg #[a0] w R :=
 cq ⟨[], [], []⟩ Tryz.func172 h
def uc.pre (a0 : Sl) (a1_0 : Int) (a1_1 : Sl) (w : World) (R : Ending → World → Prop) : Prop :=
 ∀ w0 : World, w0 = w.alloc (.cells #[a1_0, a1_1] 274) →
 ∃ I1 : Nat → Int → Bool → Sl → World → Prop,
 (∃ n2, aT [a1_0, a1_1] ∧ I1 n2 (0) false ⟨none, 0, 0⟩ w0) ∧
 ∀ (n2 : Nat) (us3 : Nat → Value) (x4 : Int) (b5 : Bool) (s6 : Sl) (w7 : World), I1 n2 x4 b5 s6 w7 →
 Br (decide (x4 < ((a0.n : Nat) : Int)))
 (Br (!b5)
 (bA a0.a x4 a0.n ∧ aK (ep (ab a0.a ((x4 : Int).toNat * 2))) (∃ (x9 : Int), ld w7.drew (ab (ab a0.a ((x4 : Int).toNat * 2)) 0) = some (.int .i64 x9) ∧
 Br (decide (x9 ≥ a1_0))
 (∀ w10 : World, w10 = w7.drew.alloc (.cells #[a1_0, a1_1] 274) →
 au 32 2 w10 s6 1 [a1_0, a1_1] ∧ ∀ (s11 : Sl) (w12 : World), aq 274 2 w10 s6 1 [a1_0, a1_1] s11 w12 → Kp w w10 w12 ∧ w12.heap[w7.drew.heap.size]? = w10.heap[w7.drew.heap.size]? ∧
 bA a0.a x4 a0.n ∧ aK (ep (ab a0.a ((x4 : Int).toNat * 2))) (∃ (x13 : Int), ld w12.drew (ab (ab a0.a ((x4 : Int).toNat * 2)) 0) = some (.int .i64 x13) ∧
 Br (x13 != a1_0)
 (bA a0.a x4 a0.n ∧ ∃ (x14 : Int) (s15 : Sl), ah w12.drew (ab a0.a ((x4 : Int).toNat * 2)) 0 [x14, s15] ∧
 ∀ w16 : World, w16 = w12.drew.alloc (.cells #[x14, s15] 274) →
 au 32 2 w16 s11 1 [x14, s15] ∧ ∀ (s17 : Sl) (w18 : World), aq 274 2 w16 s11 1 [x14, s15] s17 w18 → Kp w w16 w18 ∧ w18.heap[w7.drew.heap.size]? = w16.heap[w7.drew.heap.size]? ∧ w18.heap[w12.drew.heap.size]? = w16.heap[w12.drew.heap.size]? ∧
 ∃ n8, n8 < n2 ∧ aT [a1_0, a1_1] ∧ I1 n8 ((IntKind.wrap .i64 (x4 + 1))) true s17 w18)
 (∃ n8, n8 < n2 ∧ aT [a1_0, a1_1] ∧ I1 n8 ((IntKind.wrap .i64 (x4 + 1))) true s11 w12.drew)))
 (bA a0.a x4 a0.n ∧ aK (ep (ab a0.a ((x4 : Int).toNat * 2))) (∃ (x19 : Int), ld w7.drew.drew (ab (ab a0.a ((x4 : Int).toNat * 2)) 0) = some (.int .i64 x19) ∧
 Br (x19 != a1_0)
 (bA a0.a x4 a0.n ∧ ∃ (x20 : Int) (s21 : Sl), ah w7.drew.drew (ab a0.a ((x4 : Int).toNat * 2)) 0 [x20, s21] ∧
 ∀ w22 : World, w22 = w7.drew.drew.alloc (.cells #[x20, s21] 274) →
 au 32 2 w22 s6 1 [x20, s21] ∧ ∀ (s23 : Sl) (w24 : World), aq 274 2 w22 s6 1 [x20, s21] s23 w24 → Kp w w22 w24 ∧ w24.heap[w7.drew.drew.heap.size]? = w22.heap[w7.drew.drew.heap.size]? ∧
 ∃ n8, n8 < n2 ∧ aT [a1_0, a1_1] ∧ I1 n8 ((IntKind.wrap .i64 (x4 + 1))) b5 s23 w24)
 (∃ n8, n8 < n2 ∧ aT [a1_0, a1_1] ∧ I1 n8 ((IntKind.wrap .i64 (x4 + 1))) b5 s6 w7.drew.drew)))))
 (bA a0.a x4 a0.n ∧ aK (ep (ab a0.a ((x4 : Int).toNat * 2))) (∃ (x25 : Int), ld w7.drew.drew (ab (ab a0.a ((x4 : Int).toNat * 2)) 0) = some (.int .i64 x25) ∧
 Br (x25 != a1_0)
 (bA a0.a x4 a0.n ∧ ∃ (x26 : Int) (s27 : Sl), ah w7.drew.drew (ab a0.a ((x4 : Int).toNat * 2)) 0 [x26, s27] ∧
 ∀ w28 : World, w28 = w7.drew.drew.alloc (.cells #[x26, s27] 274) →
 au 32 2 w28 s6 1 [x26, s27] ∧ ∀ (s29 : Sl) (w30 : World), aq 274 2 w28 s6 1 [x26, s27] s29 w30 → Kp w w28 w30 ∧ w30.heap[w7.drew.drew.heap.size]? = w28.heap[w7.drew.drew.heap.size]? ∧
 ∃ n8, n8 < n2 ∧ aT [a1_0, a1_1] ∧ I1 n8 ((IntKind.wrap .i64 (x4 + 1))) b5 s29 w30)
 (∃ n8, n8 < n2 ∧ aT [a1_0, a1_1] ∧ I1 n8 ((IntKind.wrap .i64 (x4 + 1))) b5 s6 w7.drew.drew))))
 (Br (!b5)
 (∀ w31 : World, w31 = w7.alloc (.cells #[a1_0, a1_1] 274) →
 au 32 2 w31 s6 1 [a1_0, a1_1] ∧ ∀ (s32 : Sl) (w33 : World), aq 274 2 w31 s6 1 [a1_0, a1_1] s32 w33 → Kp w w31 w33 ∧ Kp w7 w31 w33 ∧
 R (.returned s32) w33)
 (R (.returned s6) w7))
theorem uc.vc {a0 a1_0 a1_1 w} (h : uc.pre a0 a1_0 a1_1 w R) : Calls Tryz.prog kj #[a0, .agg #[a1_0, a1_1]] w R :=
 cq ⟨[(4, ⟨[(7, .int .i64), (6, .bool), (5, .slice)], [], []⟩)], [], []⟩ Tryz.func215 h
def ud.pre (a0_0 a0_1 a0_2 : Int) (a0_3 a0_4 : Sl) (w : World) (R : Ending → World → Prop) : Prop :=
 ∀ w0 : World, w0 = w.alloc (.cells #[a0_0, a0_1, a0_2, a0_3, a0_4] 27) →
 ∃ I1 : Nat → Int → Sl → World → Prop,
 (∃ n2, aT [a0_0, a0_1, a0_2, a0_3, a0_4] ∧ I1 n2 (0) a0_3 w0) ∧
 ∀ (n2 : Nat) (us3 : Nat → Value) (x4 : Int) (s5 : Sl) (w6 : World), I1 n2 x4 s5 w6 →
 Br (decide (x4 < ((a0_4.n : Nat) : Int)))
 (bA a0_4.a x4 a0_4.n ∧ ∃ (x8 : Int) (s9 : Sl), ah w6 (ab a0_4.a ((x4 : Int).toNat * 2)) 0 [x8, s9] ∧
 Calls Tryz.prog kj #[s5, .agg #[x8, s9]] w6 (fun e w10 => ∃ (s11 : Sl), e = .returned s11 ∧ Kp w w6 w10 ∧
 ∃ n7, n7 < n2 ∧ aT [a0_0, a0_1, a0_2, a0_3, a0_4] ∧ I1 n7 ((IntKind.wrap .i64 (x4 + 1))) s11 w10))
 (R (.returned s5) w6)
theorem ud.vc {a0_0 a0_1 a0_2 a0_3 a0_4 w} (h : ud.pre a0_0 a0_1 a0_2 a0_3 a0_4 w R) : Calls Tryz.prog oN #[.agg #[a0_0, a0_1, a0_2, a0_3, a0_4]] w R :=
 cq ⟨[(3, ⟨[(4, .int .i64), (3, .slice)], [], []⟩)], [], []⟩ Tryz.func216 h
def q6.pre (a0 : Sl) (w : World) (R : Ending → World → Prop) : Prop :=
 Br (decide (((IntKind.wrap .i64 (((a0.n : Nat) : Int) - 2)) : Int) < 0))
 (R (.returned (.tuple #[.slice none 0 0, (3:Int)])) w)
 (bA a0.a (IntKind.wrap .i64 (((a0.n : Nat) : Int) - 2)) a0.n ∧ ∃ (x0 : Int), ld w.drew (ab a0.a (((IntKind.wrap .i64 (((a0.n : Nat) : Int) - 2)) : Int).toNat * 1)) = some (.int .u8 x0) ∧
 bA a0.a (IntKind.wrap .i64 ((IntKind.wrap .i64 (((a0.n : Nat) : Int) - 2)) + 1)) a0.n ∧ ∃ (x1 : Int), ld w.drew (ab a0.a (((IntKind.wrap .i64 ((IntKind.wrap .i64 (((a0.n : Nat) : Int) - 2)) + 1)) : Int).toNat * 1)) = some (.int .u8 x1) ∧
 (0 : Int) ≤ (IntKind.wrap .i64 (((a0.n : Nat) : Int) - 2)) ∧ (IntKind.wrap .i64 (((a0.n : Nat) : Int) - 2)) ≤ ((a0.c : Nat) : Int) ∧ Calls Tryz.prog qV #[.slice (ai a0.a (0) (a0.c) 1) (((IntKind.wrap .i64 (((a0.n : Nat) : Int) - 2)) : Int).toNat - 0) (a0.c - 0)] w.drew (fun e w2 => ∃ (x3 : Int), e = .returned x3 ∧
 ah w2 (ab a0.a (((IntKind.wrap .i64 ((IntKind.wrap .i64 (((a0.n : Nat) : Int) - 2)) + 1)) : Int).toNat * 1)) 0 [.int .u8 x1] ∧ ah w2 (ab a0.a (((IntKind.wrap .i64 (((a0.n : Nat) : Int) - 2)) : Int).toNat * 1)) 0 [.int .u8 x0] ∧ Br (((IntKind.wrap .i64 ((IntKind.wrap .i64 ((IntKind.wrap .i64 x0) * 256)) + (IntKind.wrap .i64 x1))) : Int) != x3)
 (R (.returned (.tuple #[.slice none 0 0, (4:Int)])) w2)
 ((0 : Int) ≤ (IntKind.wrap .i64 (((a0.n : Nat) : Int) - 2)) ∧ (IntKind.wrap .i64 (((a0.n : Nat) : Int) - 2)) ≤ ((a0.c : Nat) : Int) ∧ R (.returned (.tuple #[.slice (ai a0.a (0) (a0.c) 1) (((IntKind.wrap .i64 (((a0.n : Nat) : Int) - 2)) : Int).toNat - 0) (a0.c - 0), (0:Int)])) w2)))
theorem q6.vc {a0 w} (h : q6.pre a0 w R) : Calls Tryz.prog mE #[a0] w R :=
 cq ⟨[], [], []⟩ Tryz.func217 h
def ue.pre (a0 : Sl) (w : World) (R : Ending → World → Prop) : Prop :=
 ∃ I0 : Nat → Int → Int → World → Prop,
 (∃ n1, I0 n1 (0) (0) w) ∧
 ∀ (n1 : Nat) (us2 : Nat → Value) (x3 x4 : Int) (w5 : World), I0 n1 x3 x4 w5 →
 Br (decide (x3 < ((a0.n : Nat) : Int)))
 (bA a0.a x3 a0.n ∧ ∃ (x7 : Int), ld w5 (ab a0.a ((x3 : Int).toNat * 1)) = some (.int .u8 x7) ∧
 ∃ n6, n6 < n1 ∧ I0 n6 ((IntKind.wrap .i64 (x3 + 1))) ((IntKind.wrap .i64 ((IntKind.wrap .i64 (x4 * 256)) + (IntKind.wrap .i64 x7)))) w5)
 (R (.returned x4) w5)
theorem ue.vc {a0 w} (h : ue.pre a0 w R) : Calls Tryz.prog kl #[a0] w R :=
 cq ⟨[(3, ⟨[(4, .int .i64), (3, .int .i64)], [], []⟩)], [], []⟩ Tryz.func218 h
def xe.pre (a0 : Sl) (w : World) (R : Ending → World → Prop) : Prop :=
 Calls Tryz.prog oO #[(65535:Int), a0] w (fun e w0 => ∃ (x1 : Int), e = .returned x1 ∧
 R (.returned x1) w0)
theorem xe.vc {a0 w} (h : xe.pre a0 w R) : Calls Tryz.prog qV #[a0] w R :=
 cq ⟨[], [], []⟩ Tryz.func240 h
def uf.pre (a0 : Int) (a1 : Sl) (w : World) (R : Ending → World → Prop) : Prop :=
 ∃ I0 : Nat → Int → Int → World → Prop,
 (∃ n1, I0 n1 (0) a0 w) ∧
 ∀ (n1 : Nat) (us2 : Nat → Value) (x3 x4 : Int) (w5 : World), I0 n1 x3 x4 w5 →
 Br (decide (x3 < ((a1.n : Nat) : Int)))
 (bA a1.a x3 a1.n ∧ ∃ (x7 : Int), ld w5 (ab a1.a ((x3 : Int).toNat * 1)) = some (.int .u8 x7) ∧
 ∃ I8 : Nat → Int → Int → World → Prop,
 (∃ n9, I8 n9 (0) ((dJ .i64 x4 (IntKind.wrap .i64 ((IntKind.wrap .i64 x7) * 256)))) w5) ∧
 ∀ (n9 : Nat) (us10 : Nat → Value) (x11 x12 : Int) (w13 : World), I8 n9 x11 x12 w13 →
 Br (decide (x11 < 8))
 (Br (decide (((IntKind.wrap .i64 (x12 * 2)) : Int) ≥ 65536))
 (∃ n14, n14 < n9 ∧ I8 n14 ((IntKind.wrap .i64 (x11 + 1))) ((dJ .i64 (IntKind.wrap .i64 ((IntKind.wrap .i64 (x12 * 2)) - 65536)) 4129)) w13)
 (∃ n14, n14 < n9 ∧ I8 n14 ((IntKind.wrap .i64 (x11 + 1))) ((IntKind.wrap .i64 (x12 * 2))) w13))
 (∃ n6, n6 < n1 ∧ I0 n6 ((IntKind.wrap .i64 (x3 + 1))) x12 w13))
 (R (.returned x4) w5)
theorem uf.vc {a0 a1 w} (h : uf.pre a0 a1 w R) : Calls Tryz.prog oO #[a0, a1] w R :=
 cq ⟨[(6, ⟨[(6, .int .i64), (0, .int .i64)], [], []⟩), (2, ⟨[(5, .int .i64), (0, .int .i64)], [], []⟩)], [], []⟩ Tryz.func248 h
end Go.Proofs.YtalpkjfpmdpbiaaGreatDoor
