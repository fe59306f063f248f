import Derived.Test.YtalpkjfpmdpbiaaGreatDoorGS
set_option linter.all false
namespace Go.Proofs.YtalpkjfpmdpbiaaGreatDoor
open Go Go.Vc Go.RowKit Go.Proofs
set_option maxRecDepth 100000
set_option maxHeartbeats 8000000
variable {R:Ending->World->Prop}
set_option linter.unusedVariables false
abbrev sS:FuncId:=68
abbrev qB:FuncId:=39
abbrev lI:FuncId:=49
abbrev nu:FuncId:=112
abbrev iA:FuncId:=80
abbrev cm:FuncId:=77
abbrev me:FuncId:=78
abbrev xX:FuncId:=79
abbrev pD:FuncId:=125
abbrev jL:FuncId:=171
abbrev iB:FuncId:=172
abbrev jM:FuncId:=215
abbrev nv:FuncId:=216
abbrev lJ:FuncId:=217
abbrev jN:FuncId:=218
abbrev pF:FuncId:=240
abbrev nw:FuncId:=248
def rM.pre (a0 a1 a2 : Int) (w : World) (R : Ending → World → Prop) : Prop :=
 ∀ w0 : World, w0 = w.alloc (.cells #[(0:Int), (0:Int), (0:Int), (0:Int), (0:Int), .slice none 0 0, .slice none 0 0, .slice none 0 0] 30) →
 Calls Tryz.prog nu #[a2] w0 (fun e w1 => ∃ (x2 x3 x4 : Int) (s5 s6 : Sl), e = .returned (.agg #[x2, x3, x4, s5, s6]) ∧ Kp w w0 w1 ∧
 ∀ w7 : World, w7 = w1.setRow w #[a0, .int .i64 (if 16 < (if 1 > a1 then 1 else a1) then 16 else (if 1 > a1 then 1 else a1)), x2, x3, x4, s5, s6, .slice none 0 0] →
 R (.returned (.agg #[a0, .int .i64 (if 16 < (if 1 > a1 then 1 else a1) then 16 else (if 1 > a1 then 1 else a1)), x2, x3, x4, s5, s6, .slice none 0 0])) w7)
theorem rM.vc {a0 a1 a2 w} (h : rM.pre a0 a1 a2 w R) : Calls Tryz.prog sS #[a0, a1, a2] w R :=
 cq ⟨[], [], []⟩ Tryz.func68 h
def pG.pre (a0_0 a0_1 a0_2 a0_3 a0_4 : Int) (a0_5 a0_6 a0_7 : Sl) (a1_0 a1_1 : Int) (w : World) (R : Ending → World → Prop) : Prop :=
 ∀ w0 : World, w0 = w.alloc (.cells #[a0_0, a0_1, a0_2, a0_3, a0_4, a0_5, a0_6, a0_7] 30) →
 ∀ w1 : World, w1 = w0.alloc (.cells #[a1_0, a1_1] 89) →
 ∀ w2 : World, w2 = w1.alloc (.cells #[(0:Int), (0:Int), (0:Int), (0:Int), (0:Int), .slice none 0 0, .slice none 0 0, .slice none 0 0] 30) →
 Calls Tryz.prog 76 #[.agg #[a1_0, a1_1]] w2 (fun e w3 => ∃ (x4 : Int), e = .returned x4 ∧ Kp w w2 w3 ∧ Kp w0 w2 w3 ∧ Kp w1 w2 w3 ∧
 Br (x4 == 0)
 (∀ w5 : World, w5 = w3.setRow w1 #[a0_0, a0_1, a0_2, a0_3, a0_4, a0_5, a0_6, a0_7] →
 R (.returned (.tuple #[.agg #[a0_0, a0_1, a0_2, a0_3, a0_4, a0_5, a0_6, a0_7], (5:Int)])) w5)
 (Calls Tryz.prog lI #[.agg #[a0_0, a0_1, a0_2, a0_3, a0_4, a0_5, a0_6, a0_7], .agg #[a1_0, a1_1]] w3 (fun e w6 => ∃ (x7 : Int), e = .returned x7 ∧ Kp w w3 w6 ∧ Kp w0 w3 w6 ∧ Kp w1 w3 w6 ∧
 Br (decide (x7 ≥ 0))
 (cn a0_7.a x7 a0_7.n ∧ ∃ (x8 x9 : Int) (s10 : Sl) (CF : Bool) (x12 : Int), aj w6 (ae a0_7.a ((x7 : Int).toNat * 5)) 0 [x8, x9, s10, .bool CF, x12] ∧
 ∀ w13 : World, w13 = w6.alloc (.cells #[(0:Int), (0:Int), .slice none 0 0, .bool false, (0:Int)] 110) →
 ∀ w14 : World, w14 = w13.setRow w6 #[x8, x9, s10, .bool CF, x12] →
 Calls Tryz.prog me #[.agg #[a0_0, a0_1, a0_2, a0_3, a0_4, a0_5, a0_6, a0_7], x7] w14.drew (fun e w15 => ∃ (x16 x17 x18 x19 x20 : Int) (s21 s22 s23 : Sl), e = .returned (.agg #[x16, x17, x18, x19, x20, s21, s22, s23]) ∧ Kp w w14.drew w15 ∧ Kp w0 w14.drew w15 ∧ Kp w1 w14.drew w15 ∧ Kp w6 w14.drew w15 ∧
 aj w15 (some ⟨w6, 0, none⟩) 0 [x8, x9, s10, .bool CF, x12] ∧ Calls Tryz.prog cm #[.agg #[x16, x17, x18, x19, x20, s21, s22, s23], .agg #[x8, x9, s10, .bool CF, x12]] w15 (fun e w24 => ∃ (x25 x26 x27 x28 x29 : Int) (s30 s31 s32 : Sl), e = .returned (.agg #[x25, x26, x27, x28, x29, s30, s31, s32]) ∧ Kp w w15 w24 ∧ Kp w0 w15 w24 ∧ Kp w1 w15 w24 ∧ Kp w6 w15 w24 ∧
 ∀ w33 : World, w33 = w24.setRow w1 #[x25, x26, x27, x28, x29, s30, s31, s32] →
 R (.returned (.tuple #[.agg #[x25, x26, x27, x28, x29, s30, s31, s32], (0:Int)])) w33)))
 (Br (decide ((((a0_7.n : Nat) : Int) : Int) ≥ a0_1))
 (∃ I34 : Nat → Int → Int → World → Prop,
 (∃ n35, a6 [a0_0, a0_1, a0_2, a0_3, a0_4, a0_5, a0_6, a0_7] ∧ a6 [a1_0, a1_1] ∧ a6 [(0:Int), (0:Int), (0:Int), (0:Int), (0:Int), .slice none 0 0, .slice none 0 0, .slice none 0 0] ∧ I34 n35 ((IntKind.wrap .i64 (((a0_7.n : Nat) : Int) - 1))) ((-1)) w6) ∧
 ∀ (n35 : Nat) (us36 : Nat → Value) (x37 x38 : Int) (w39 : World), I34 n35 x37 x38 w39 →
 Br (decide (x37 ≥ 0))
 (cn a0_7.a x37 a0_7.n ∧ aV (ik (ae a0_7.a ((x37 : Int).toNat * 5))) (∃ (x41 : Int), ld w39 (ae (ae a0_7.a ((x37 : Int).toNat * 5)) 4) = some (.int .i64 x41) ∧
 Br (x41 == 0)
 (∃ n40, n40 < n35 ∧ a6 [a0_0, a0_1, a0_2, a0_3, a0_4, a0_5, a0_6, a0_7] ∧ a6 [a1_0, a1_1] ∧ a6 [(0:Int), (0:Int), (0:Int), (0:Int), (0:Int), .slice none 0 0, .slice none 0 0, .slice none 0 0] ∧ I34 n40 ((IntKind.wrap .i64 (x37 - 1))) x37 w39)
 (∃ n40, n40 < n35 ∧ a6 [a0_0, a0_1, a0_2, a0_3, a0_4, a0_5, a0_6, a0_7] ∧ a6 [a1_0, a1_1] ∧ a6 [(0:Int), (0:Int), (0:Int), (0:Int), (0:Int), .slice none 0 0, .slice none 0 0, .slice none 0 0] ∧ I34 n40 ((IntKind.wrap .i64 (x37 - 1))) x38 w39)))
 (Br (decide (x38 < 0))
 (∀ w42 : World, w42 = w39.setRow w1 #[a0_0, a0_1, a0_2, a0_3, a0_4, a0_5, a0_6, a0_7] →
 R (.returned (.tuple #[.agg #[a0_0, a0_1, a0_2, a0_3, a0_4, a0_5, a0_6, a0_7], (8:Int)])) w42)
 (Calls Tryz.prog xX #[.agg #[a0_0, a0_1, a0_2, a0_3, a0_4, a0_5, a0_6, a0_7], x38] w39 (fun e w43 => ∃ (x44 x45 x46 x47 x48 : Int) (s49 s50 s51 : Sl) (x52 : Int), e = .returned (.tuple #[.agg #[x44, x45, x46, x47, x48, s49, s50, s51], x52]) ∧ Kp w w39 w43 ∧ Kp w0 w39 w43 ∧ Kp w1 w39 w43 ∧
 ∀ w53 : World, w53 = w43.alloc (.cells #[(0:Int), (0:Int), (0:Int), (0:Int), (0:Int), .slice none 0 0, .slice none 0 0, .slice none 0 0] 30) →
 ∀ w54 : World, w54 = w53.setRow w43 #[x44, x45, x46, x47, x48, s49, s50, s51] →
 Br (x52 != 0)
 (∀ w55 : World, w55 = w54.setRow w1 #[x44, x45, x46, x47, x48, s49, s50, s51] →
 R (.returned (.tuple #[.agg #[x44, x45, x46, x47, x48, s49, s50, s51], x52])) w55)
 (Calls Tryz.prog me #[.agg #[x44, x45, x46, x47, x48, s49, s50, s51], x38] w54 (fun e w56 => ∃ (x57 x58 x59 x60 x61 : Int) (s62 s63 s64 : Sl), e = .returned (.agg #[x57, x58, x59, x60, x61, s62, s63, s64]) ∧ Kp w w54 w56 ∧ Kp w0 w54 w56 ∧ Kp w1 w54 w56 ∧ Kp w43 w54 w56 ∧
 ∀ w65 : World, w65 = w56.setRow w #[x57, x58, x59, x60, x61, s62, s63, s64] →
 Calls Tryz.prog iA #[.agg #[x59, x60, x61, s62, s63], x4] w65 (fun e w66 => ∃ (s67 : Sl) (x68 : Int) (b69 : Bool), e = .returned (.tuple #[s67, x68, .bool b69]) ∧ Kp w w65 w66 ∧ Kp w0 w65 w66 ∧ Kp w1 w65 w66 ∧ Kp w43 w65 w66 ∧
 Calls Tryz.prog 81 #[.agg #[a1_0, a1_1], s67] w66 (fun e w70 => ∃ (x71 x72 : Int) (s73 : Sl) (x74 : Int), e = .returned (.tuple #[.agg #[x71, x72, s73], x74]) ∧ Kp w w66 w70 ∧ Kp w0 w66 w70 ∧ Kp w1 w66 w70 ∧ Kp w43 w66 w70 ∧
 ∀ w75 : World, w75 = w70.alloc (.cells #[(0:Int), (0:Int), .slice none 0 0] 108) →
 ∀ w76 : World, w76 = w75.setRow w70 #[x71, x72, s73] →
 Br (x74 != 0)
 (Calls Tryz.prog 82 #[x57, .agg #[a1_0, a1_1]] w76 (fun e w77 => ∃ (x78 x79 : Int) (s80 : Sl), e = .returned (.agg #[x78, x79, s80]) ∧ Kp w w76 w77 ∧ Kp w0 w76 w77 ∧ Kp w1 w76 w77 ∧ Kp w43 w76 w77 ∧ Kp w70 w76 w77 ∧
 ∀ w81 : World, w81 = w77.setRow w70 #[x78, x79, s80] →
 Calls Tryz.prog cm #[.agg #[x57, x58, x59, x60, x61, s62, s63, s64], .agg #[x78, x79, s80, .bool false, (0:Int)]] w81 (fun e w82 => ∃ (x83 x84 x85 x86 x87 : Int) (s88 s89 s90 : Sl), e = .returned (.agg #[x83, x84, x85, x86, x87, s88, s89, s90]) ∧ Kp w w81 w82 ∧ Kp w0 w81 w82 ∧ Kp w1 w81 w82 ∧ Kp w43 w81 w82 ∧ Kp w70 w81 w82 ∧
 ∀ w91 : World, w91 = w82.setRow w1 #[x83, x84, x85, x86, x87, s88, s89, s90] →
 R (.returned (.tuple #[.agg #[x83, x84, x85, x86, x87, s88, s89, s90], (0:Int)])) w91)))
 (Calls Tryz.prog cm #[.agg #[x57, x58, x59, x60, x61, s62, s63, s64], .agg #[x71, x72, s73, .bool false, (0:Int)]] w76 (fun e w92 => ∃ (x93 x94 x95 x96 x97 : Int) (s98 s99 s100 : Sl), e = .returned (.agg #[x93, x94, x95, x96, x97, s98, s99, s100]) ∧ Kp w w76 w92 ∧ Kp w0 w76 w92 ∧ Kp w1 w76 w92 ∧ Kp w43 w76 w92 ∧ Kp w70 w76 w92 ∧
 ∀ w101 : World, w101 = w92.setRow w1 #[x93, x94, x95, x96, x97, s98, s99, s100] →
 R (.returned (.tuple #[.agg #[x93, x94, x95, x96, x97, s98, s99, s100], (0:Int)])) w101))))))))))
 (Calls Tryz.prog iA #[.agg #[a0_2, a0_3, a0_4, a0_5, a0_6], x4] w6 (fun e w102 => ∃ (s103 : Sl) (x104 : Int) (b105 : Bool), e = .returned (.tuple #[s103, x104, .bool b105]) ∧ Kp w w6 w102 ∧ Kp w0 w6 w102 ∧ Kp w1 w6 w102 ∧
 Calls Tryz.prog 81 #[.agg #[a1_0, a1_1], s103] w102 (fun e w106 => ∃ (x107 x108 : Int) (s109 : Sl) (x110 : Int), e = .returned (.tuple #[.agg #[x107, x108, s109], x110]) ∧ Kp w w102 w106 ∧ Kp w0 w102 w106 ∧ Kp w1 w102 w106 ∧
 ∀ w111 : World, w111 = w106.alloc (.cells #[(0:Int), (0:Int), .slice none 0 0] 108) →
 ∀ w112 : World, w112 = w111.setRow w106 #[x107, x108, s109] →
 Br (x110 != 0)
 (Calls Tryz.prog 82 #[a0_0, .agg #[a1_0, a1_1]] w112 (fun e w113 => ∃ (x114 x115 : Int) (s116 : Sl), e = .returned (.agg #[x114, x115, s116]) ∧ Kp w w112 w113 ∧ Kp w0 w112 w113 ∧ Kp w1 w112 w113 ∧ Kp w106 w112 w113 ∧
 ∀ w117 : World, w117 = w113.setRow w106 #[x114, x115, s116] →
 Calls Tryz.prog cm #[.agg #[a0_0, a0_1, a0_2, a0_3, a0_4, a0_5, a0_6, a0_7], .agg #[x114, x115, s116, .bool false, (0:Int)]] w117 (fun e w118 => ∃ (x119 x120 x121 x122 x123 : Int) (s124 s125 s126 : Sl), e = .returned (.agg #[x119, x120, x121, x122, x123, s124, s125, s126]) ∧ Kp w w117 w118 ∧ Kp w0 w117 w118 ∧ Kp w1 w117 w118 ∧ Kp w106 w117 w118 ∧
 ∀ w127 : World, w127 = w118.setRow w1 #[x119, x120, x121, x122, x123, s124, s125, s126] →
 R (.returned (.tuple #[.agg #[x119, x120, x121, x122, x123, s124, s125, s126], (0:Int)])) w127)))
 (Calls Tryz.prog cm #[.agg #[a0_0, a0_1, a0_2, a0_3, a0_4, a0_5, a0_6, a0_7], .agg #[x107, x108, s109, .bool false, (0:Int)]] w112 (fun e w128 => ∃ (x129 x130 x131 x132 x133 : Int) (s134 s135 s136 : Sl), e = .returned (.agg #[x129, x130, x131, x132, x133, s134, s135, s136]) ∧ Kp w w112 w128 ∧ Kp w0 w112 w128 ∧ Kp w1 w112 w128 ∧ Kp w106 w112 w128 ∧
 ∀ w137 : World, w137 = w128.setRow w1 #[x129, x130, x131, x132, x133, s134, s135, s136] →
 R (.returned (.tuple #[.agg #[x129, x130, x131, x132, x133, s134, s135, s136], (0:Int)])) w137)))))))))
theorem pG.vc {a0_0 a0_1 a0_2 a0_3 a0_4 a0_5 a0_6 a0_7 a1_0 a1_1 w} (h : pG.pre a0_0 a0_1 a0_2 a0_3 a0_4 a0_5 a0_6 a0_7 a1_0 a1_1 w R) : Calls Tryz.prog qB #[.agg #[a0_0, a0_1, a0_2, a0_3, a0_4, a0_5, a0_6, a0_7], .agg #[a1_0, a1_1]] w R :=
 cq ⟨[(11, ⟨[(10, .int .i64), (9, .int .i64)], [], []⟩)], [], []⟩ Tryz.func39 h
def pH.pre (a0_0 a0_1 a0_2 a0_3 a0_4 : Int) (a0_5 a0_6 a0_7 : Sl) (a1_0 a1_1 : Int) (w : World) (R : Ending → World → Prop) : Prop :=
 ∀ w0 : World, w0 = w.alloc (.cells #[a0_0, a0_1, a0_2, a0_3, a0_4, a0_5, a0_6, a0_7] 30) →
 ∀ w1 : World, w1 = w0.alloc (.cells #[a1_0, a1_1] 89) →
 ∃ I2 : Nat → Int → World → Prop,
 (∃ n3, a6 [a0_0, a0_1, a0_2, a0_3, a0_4, a0_5, a0_6, a0_7] ∧ a6 [a1_0, a1_1] ∧ I2 n3 (0) w1) ∧
 ∀ (n3 : Nat) (us4 : Nat → Value) (x5 : Int) (w6 : World), I2 n3 x5 w6 →
 Br (decide (x5 < ((a0_7.n : Nat) : Int)))
 (cn a0_7.a x5 a0_7.n ∧ aV (ik (ae a0_7.a ((x5 : Int).toNat * 5))) (aV (ik (ae (ae a0_7.a ((x5 : Int).toNat * 5)) 0)) (∃ (x8 x9 : Int), aj w6.drew (ae (ae (ae a0_7.a ((x5 : Int).toNat * 5)) 0) 0) 0 [x8, x9] ∧
 Br ((x8 == a1_0) && (x9 == a1_1))
 (R (.returned x5) w6.drew)
 (∃ n7, n7 < n3 ∧ a6 [a0_0, a0_1, a0_2, a0_3, a0_4, a0_5, a0_6, a0_7] ∧ a6 [a1_0, a1_1] ∧ I2 n7 ((IntKind.wrap .i64 (x5 + 1))) w6.drew))))
 (R (.returned (.int .i64 (-1))) w6)
theorem pH.vc {a0_0 a0_1 a0_2 a0_3 a0_4 a0_5 a0_6 a0_7 a1_0 a1_1 w} (h : pH.pre a0_0 a0_1 a0_2 a0_3 a0_4 a0_5 a0_6 a0_7 a1_0 a1_1 w R) : Calls Tryz.prog lI #[.agg #[a0_0, a0_1, a0_2, a0_3, a0_4, a0_5, a0_6, a0_7], .agg #[a1_0, a1_1]] w R :=
 cq ⟨[(2, ⟨[(5, .int .i64)], [], []⟩)], [], []⟩ Tryz.func49 h
def rN.pre (a0 : Int) (w : World) (R : Ending → World → Prop) : Prop :=
 ∀ w0 : World, w0 = w.alloc (.cells #[(0:Int), (0:Int), (0:Int), .slice none 0 0, .slice none 0 0] 27) →
 ∀ w1 : World, w1 = w0.setRow w #[.int .i64 (if 1048576 < (if 0 > a0 then 0 else a0) then 1048576 else (if 0 > a0 then 0 else a0)), (0:Int), (0:Int), .slice none 0 0, .slice none 0 0] →
 R (.returned (.agg #[.int .i64 (if 1048576 < (if 0 > a0 then 0 else a0) then 1048576 else (if 0 > a0 then 0 else a0)), (0:Int), (0:Int), .slice none 0 0, .slice none 0 0])) w1
theorem rN.vc {a0 w} (h : rN.pre a0 w R) : Calls Tryz.prog nu #[a0] w R :=
 cq ⟨[], [], []⟩ Tryz.func112 h
def pE.pre (a0_0 a0_1 a0_2 : Int) (a0_3 a0_4 : Sl) (a1 : Int) (w : World) (R : Ending → World → Prop) : Prop :=
 ∀ w0 : World, w0 = w.alloc (.cells #[a0_0, a0_1, a0_2, a0_3, a0_4] 27) →
 Br (decide (a1 < 0))
 (R (.returned (.tuple #[.slice none 0 0, (0:Int), .bool false])) w0)
 (Br (decide (a1 > 1099511627776))
 (R (.returned (.tuple #[.slice none 0 0, (0:Int), .bool false])) w0)
 (Calls Tryz.prog pD #[.agg #[a0_0, a0_1, a0_2, a0_3, a0_4], a1] w0 (fun e w1 => ∃ (x2 x3 : Int) (s4 : Sl), e = .returned (.tuple #[x2, x3, s4]) ∧ Kp w w0 w1 ∧
 R (.returned (.tuple #[s4, x3, .bool (decide (x3 > 0))])) w1)))
theorem pE.vc {a0_0 a0_1 a0_2 a0_3 a0_4 a1 w} (h : pE.pre a0_0 a0_1 a0_2 a0_3 a0_4 a1 w R) : Calls Tryz.prog iA #[.agg #[a0_0, a0_1, a0_2, a0_3, a0_4], a1] w R :=
 cq ⟨[], [], []⟩ Tryz.func80 h
def pI.pre (a0_0 a0_1 a0_2 a0_3 a0_4 : Int) (a0_5 a0_6 a0_7 : Sl) (a1_0 a1_1 : Int) (a1_2 : Sl) (a1_3 : Bool) (a1_4 : Int) (w : World) (R : Ending → World → Prop) : Prop :=
 ∀ w0 : World, w0 = w.alloc (.cells #[a0_0, a0_1, a0_2, a0_3, a0_4, a0_5, a0_6, a0_7] 30) →
 ∀ w1 : World, w1 = w0.alloc (.cells #[a1_0, a1_1, a1_2, .bool a1_3, a1_4] 110) →
 ∀ w2 : World, w2 = w1.alloc (.cells #[(0:Int), (0:Int), (0:Int), (0:Int), (0:Int), .slice none 0 0, .slice none 0 0, .slice none 0 0] 30) →
 ∃ l3 : List Value, Rd w2 a0_7.a l3 ∧ az 56 5 w2 ⟨none, 0, 0⟩ a0_7.n l3 ∧ ∀ (s4 : Sl) (w5 : World), av 110 5 w2 ⟨none, 0, 0⟩ a0_7.n l3 s4 w5 → Kp w w2 w5 ∧ Kp w0 w2 w5 ∧ Kp w1 w2 w5 ∧
 ∀ w6 : World, w6 = w5.alloc (.cells #[a1_0, a1_1, a1_2, .bool a1_3, a1_4] 110) →
 az 56 5 w6 s4 1 [a1_0, a1_1, a1_2, .bool a1_3, a1_4] ∧ ∀ (s7 : Sl) (w8 : World), av 110 5 w6 s4 1 [a1_0, a1_1, a1_2, .bool a1_3, a1_4] s7 w8 → Kp w w6 w8 ∧ Kp w0 w6 w8 ∧ Kp w1 w6 w8 ∧ Kp w5 w6 w8 ∧
 ∀ w9 : World, w9 = w8.setRow w #[a0_0, a0_1, a0_2, a0_3, a0_4, a0_5, a0_6, s7] →
 ∀ w10 : World, w10 = w9.setRow w1 #[a0_0, a0_1, a0_2, a0_3, a0_4, a0_5, a0_6, s7] →
 R (.returned (.agg #[a0_0, a0_1, a0_2, a0_3, a0_4, a0_5, a0_6, s7])) w10
theorem pI.vc {a0_0 a0_1 a0_2 a0_3 a0_4 a0_5 a0_6 a0_7 a1_0 a1_1 a1_2 a1_3 a1_4 w} (h : pI.pre a0_0 a0_1 a0_2 a0_3 a0_4 a0_5 a0_6 a0_7 a1_0 a1_1 a1_2 a1_3 a1_4 w R) : Calls Tryz.prog cm #[.agg #[a0_0, a0_1, a0_2, a0_3, a0_4, a0_5, a0_6, a0_7], .agg #[a1_0, a1_1, a1_2, .bool a1_3, a1_4]] w R :=
 cq ⟨[], [], []⟩ Tryz.func77 h
def uK.pre (a0_0 a0_1 a0_2 : Int) (a0_3 a0_4 : Sl) (a1 : Int) (w : World) (R : Ending → World → Prop) : Prop :=
 ∀ w0 : World, w0 = w.alloc (.cells #[a0_0, a0_1, a0_2, a0_3, a0_4] 27) →
 Calls Tryz.prog jL #[.agg #[a0_0, a0_1, a0_2, a0_3, a0_4], (IntKind.wrap .i64 (2 * a1))] w0 (fun e w1 => ∃ (s2 : Sl) (b3 : Bool), e = .returned (.tuple #[s2, .bool b3]) ∧ Kp w w0 w1 ∧
 Calls Tryz.prog jL #[.agg #[a0_0, a0_1, a0_2, a0_3, a0_4], (IntKind.wrap .i64 ((IntKind.wrap .i64 (2 * a1)) + 1))] w1 (fun e w4 => ∃ (s5 : Sl) (b6 : Bool), e = .returned (.tuple #[s5, .bool b6]) ∧ Kp w w1 w4 ∧
 Calls Tryz.prog iB #[s2] w4 (fun e w7 => ∃ (x8 : Int) (s9 : Sl) (x10 : Int), e = .returned (.tuple #[x8, s9, x10]) ∧ Kp w w4 w7 ∧
 Calls Tryz.prog iB #[s5] w7 (fun e w11 => ∃ (x12 : Int) (s13 : Sl) (x14 : Int), e = .returned (.tuple #[x12, s13, x14]) ∧ Kp w w7 w11 ∧
 Br (x10 != 0)
 (Br (x14 != 0)
 (R (.returned (.tuple #[(IntKind.wrap .i64 ((IntKind.wrap .i64 (2 * a1)) + 1)), (0:Int), .slice none 0 0])) w11)
 (Br (x14 != 0)
 (R (.returned (.tuple #[(IntKind.wrap .i64 (2 * a1)), x8, s9])) w11)
 (Br (x10 == 0)
 (Br (decide (x8 ≥ x12))
 (R (.returned (.tuple #[(IntKind.wrap .i64 (2 * a1)), x8, s9])) w11)
 (R (.returned (.tuple #[(IntKind.wrap .i64 ((IntKind.wrap .i64 (2 * a1)) + 1)), x12, s13])) w11))
 (R (.returned (.tuple #[(IntKind.wrap .i64 ((IntKind.wrap .i64 (2 * a1)) + 1)), x12, s13])) w11))))
 (Br (x14 != 0)
 (R (.returned (.tuple #[(IntKind.wrap .i64 (2 * a1)), x8, s9])) w11)
 (Br (x10 == 0)
 (Br (decide (x8 ≥ x12))
 (R (.returned (.tuple #[(IntKind.wrap .i64 (2 * a1)), x8, s9])) w11)
 (R (.returned (.tuple #[(IntKind.wrap .i64 ((IntKind.wrap .i64 (2 * a1)) + 1)), x12, s13])) w11))
 (R (.returned (.tuple #[(IntKind.wrap .i64 ((IntKind.wrap .i64 (2 * a1)) + 1)), x12, s13])) w11)))))))
theorem uK.vc {a0_0 a0_1 a0_2 a0_3 a0_4 a1 w} (h : uK.pre a0_0 a0_1 a0_2 a0_3 a0_4 a1 w R) : Calls Tryz.prog pD #[.agg #[a0_0, a0_1, a0_2, a0_3, a0_4], a1] w R :=
 cq ⟨[], [], []⟩ Tryz.func125 h
def rO.pre (a0_0 a0_1 a0_2 : Int) (a0_3 a0_4 : Sl) (a1 : Int) (w : World) (R : Ending → World → Prop) : Prop :=
 ∀ w0 : World, w0 = w.alloc (.cells #[a0_0, a0_1, a0_2, a0_3, a0_4] 27) →
 Calls Tryz.prog nv #[.agg #[a0_0, a0_1, a0_2, a0_3, a0_4]] w0 (fun e w1 => ∃ (s2 : Sl), e = .returned s2 ∧ Kp w w0 w1 ∧
 ∃ I3 : Nat → Int → World → Prop,
 (∃ n4, a6 [a0_0, a0_1, a0_2, a0_3, a0_4] ∧ I3 n4 (0) w1) ∧
 ∀ (n4 : Nat) (us5 : Nat → Value) (x6 : Int) (w7 : World), I3 n4 x6 w7 →
 Br (decide (x6 < ((s2.n : Nat) : Int)))
 (cn s2.a x6 s2.n ∧ aV (ik (ae s2.a ((x6 : Int).toNat * 2))) (∃ (x9 : Int), ld w7 (ae (ae s2.a ((x6 : Int).toNat * 2)) 0) = some (.int .i64 x9) ∧
 Br (x9 == a1)
 (cn s2.a x6 s2.n ∧ aV (ik (ae s2.a ((x6 : Int).toNat * 2))) (∃ (s10 : Sl), ld w7 (ae (ae s2.a ((x6 : Int).toNat * 2)) 1) = some (.slice s10.a s10.n s10.c) ∧
 R (.returned (.tuple #[s10, .bool true])) w7))
 (∃ n8, n8 < n4 ∧ a6 [a0_0, a0_1, a0_2, a0_3, a0_4] ∧ I3 n8 ((IntKind.wrap .i64 (x6 + 1))) w7)))
 (R (.returned (.tuple #[.slice none 0 0, .bool false])) w7))
theorem rO.vc {a0_0 a0_1 a0_2 a0_3 a0_4 a1 w} (h : rO.pre a0_0 a0_1 a0_2 a0_3 a0_4 a1 w R) : Calls Tryz.prog jL #[.agg #[a0_0, a0_1, a0_2, a0_3, a0_4], a1] w R :=
 cq ⟨[(3, ⟨[(7, .int .i64)], [], []⟩)], [], []⟩ Tryz.func171 h
def pJ.pre (a0 : Sl) (w : World) (R : Ending → World → Prop) : Prop :=
 Calls Tryz.prog lJ #[a0] w (fun e w0 => ∃ (s1 : Sl) (x2 : Int), e = .returned (.tuple #[s1, x2]) ∧
 Br (x2 != 0)
 (R (.returned (.tuple #[(0:Int), .slice none 0 0, x2])) w0)
 (Br (decide ((((s1.n : Nat) : Int) : Int) < 7))
 (R (.returned (.tuple #[(0:Int), .slice none 0 0, (3:Int)])) w0)
 ((0 : Int) ≤ 4 ∧ 4 ≤ ((s1.c : Nat) : Int) ∧ Calls Tryz.prog jN #[.slice (ai s1.a (0) (s1.c) 1) ((4 : Int).toNat - 0) (s1.c - 0)] w0 (fun e w3 => ∃ (x4 : Int), e = .returned x4 ∧
 (0 : Int) ≤ 7 ∧ 7 ≤ ((s1.c : Nat) : Int) ∧ (0 : Int) ≤ 4 ∧ (4 : Int) ≤ 7 ∧ Calls Tryz.prog jN #[.slice (ai s1.a ((4 : Int).toNat) (s1.c) 1) ((7 : Int).toNat - (4 : Int).toNat) (s1.c - (4 : Int).toNat)] w3 (fun e w5 => ∃ (x6 : Int), e = .returned x6 ∧
 Br (decide (x4 < 1))
 (R (.returned (.tuple #[(0:Int), .slice none 0 0, (2:Int)])) w5)
 (Br (decide (x4 > 1073741824))
 (R (.returned (.tuple #[(0:Int), .slice none 0 0, (2:Int)])) w5)
 (Br (decide (x6 > 65536))
 (R (.returned (.tuple #[(0:Int), .slice none 0 0, (2:Int)])) w5)
 (Br (x6 != (IntKind.wrap .i64 (((s1.n : Nat) : Int) - 7)))
 (R (.returned (.tuple #[(0:Int), .slice none 0 0, (2:Int)])) w5)
 ((0 : Int) ≤ 7 ∧ 7 ≤ ((s1.n : Nat) : Int) ∧ R (.returned (.tuple #[x4, .slice (ai s1.a ((7 : Int).toNat) (s1.c) 1) (s1.n - (7 : Int).toNat) (s1.c - (7 : Int).toNat), (0:Int)])) w5.drew)))))))))
theorem pJ.vc {a0 w} (h : pJ.pre a0 w R) : Calls Tryz.prog iB #[a0] w R :=
 cq ⟨[], [], []⟩ Tryz.func172 h
def rP.pre (a0 : Sl) (a1_0 : Int) (a1_1 : Sl) (w : World) (R : Ending → World → Prop) : Prop :=
 ∀ w0 : World, w0 = w.alloc (.cells #[a1_0, a1_1] 274) →
 ∃ I1 : Nat → Int → Bool → Sl → World → Prop,
 (∃ n2, a6 [a1_0, a1_1] ∧ I1 n2 (0) false ⟨none, 0, 0⟩ w0) ∧
 ∀ (n2 : Nat) (us3 : Nat → Value) (x4 : Int) (b5 : Bool) (s6 : Sl) (w7 : World), I1 n2 x4 b5 s6 w7 →
 Br (decide (x4 < ((a0.n : Nat) : Int)))
 (Br (!b5)
 (cn a0.a x4 a0.n ∧ aV (ik (ae a0.a ((x4 : Int).toNat * 2))) (∃ (x9 : Int), ld w7.drew (ae (ae a0.a ((x4 : Int).toNat * 2)) 0) = some (.int .i64 x9) ∧
 Br (decide (x9 ≥ a1_0))
 (∀ w10 : World, w10 = w7.drew.alloc (.cells #[a1_0, a1_1] 274) →
 az 32 2 w10 s6 1 [a1_0, a1_1] ∧ ∀ (s11 : Sl) (w12 : World), av 274 2 w10 s6 1 [a1_0, a1_1] s11 w12 → Kp w w10 w12 ∧ w12.heap[w7.drew.heap.size]? = w10.heap[w7.drew.heap.size]? ∧
 cn a0.a x4 a0.n ∧ aV (ik (ae a0.a ((x4 : Int).toNat * 2))) (∃ (x13 : Int), ld w12.drew (ae (ae a0.a ((x4 : Int).toNat * 2)) 0) = some (.int .i64 x13) ∧
 Br (x13 != a1_0)
 (cn a0.a x4 a0.n ∧ ∃ (x14 : Int) (s15 : Sl), aj w12.drew (ae a0.a ((x4 : Int).toNat * 2)) 0 [x14, s15] ∧
 ∀ w16 : World, w16 = w12.drew.alloc (.cells #[x14, s15] 274) →
 az 32 2 w16 s11 1 [x14, s15] ∧ ∀ (s17 : Sl) (w18 : World), av 274 2 w16 s11 1 [x14, s15] s17 w18 → Kp w w16 w18 ∧ w18.heap[w7.drew.heap.size]? = w16.heap[w7.drew.heap.size]? ∧ w18.heap[w12.drew.heap.size]? = w16.heap[w12.drew.heap.size]? ∧
 ∃ n8, n8 < n2 ∧ a6 [a1_0, a1_1] ∧ I1 n8 ((IntKind.wrap .i64 (x4 + 1))) true s17 w18)
 (∃ n8, n8 < n2 ∧ a6 [a1_0, a1_1] ∧ I1 n8 ((IntKind.wrap .i64 (x4 + 1))) true s11 w12.drew)))
 (cn a0.a x4 a0.n ∧ aV (ik (ae a0.a ((x4 : Int).toNat * 2))) (∃ (x19 : Int), ld w7.drew.drew (ae (ae a0.a ((x4 : Int).toNat * 2)) 0) = some (.int .i64 x19) ∧
 Br (x19 != a1_0)
 (cn a0.a x4 a0.n ∧ ∃ (x20 : Int) (s21 : Sl), aj w7.drew.drew (ae a0.a ((x4 : Int).toNat * 2)) 0 [x20, s21] ∧
 ∀ w22 : World, w22 = w7.drew.drew.alloc (.cells #[x20, s21] 274) →
 az 32 2 w22 s6 1 [x20, s21] ∧ ∀ (s23 : Sl) (w24 : World), av 274 2 w22 s6 1 [x20, s21] s23 w24 → Kp w w22 w24 ∧ w24.heap[w7.drew.drew.heap.size]? = w22.heap[w7.drew.drew.heap.size]? ∧
 ∃ n8, n8 < n2 ∧ a6 [a1_0, a1_1] ∧ I1 n8 ((IntKind.wrap .i64 (x4 + 1))) b5 s23 w24)
 (∃ n8, n8 < n2 ∧ a6 [a1_0, a1_1] ∧ I1 n8 ((IntKind.wrap .i64 (x4 + 1))) b5 s6 w7.drew.drew)))))
 (cn a0.a x4 a0.n ∧ aV (ik (ae a0.a ((x4 : Int).toNat * 2))) (∃ (x25 : Int), ld w7.drew.drew (ae (ae a0.a ((x4 : Int).toNat * 2)) 0) = some (.int .i64 x25) ∧
 Br (x25 != a1_0)
 (cn a0.a x4 a0.n ∧ ∃ (x26 : Int) (s27 : Sl), aj w7.drew.drew (ae a0.a ((x4 : Int).toNat * 2)) 0 [x26, s27] ∧
 ∀ w28 : World, w28 = w7.drew.drew.alloc (.cells #[x26, s27] 274) →
 az 32 2 w28 s6 1 [x26, s27] ∧ ∀ (s29 : Sl) (w30 : World), av 274 2 w28 s6 1 [x26, s27] s29 w30 → Kp w w28 w30 ∧ w30.heap[w7.drew.drew.heap.size]? = w28.heap[w7.drew.drew.heap.size]? ∧
 ∃ n8, n8 < n2 ∧ a6 [a1_0, a1_1] ∧ I1 n8 ((IntKind.wrap .i64 (x4 + 1))) b5 s29 w30)
 (∃ n8, n8 < n2 ∧ a6 [a1_0, a1_1] ∧ I1 n8 ((IntKind.wrap .i64 (x4 + 1))) b5 s6 w7.drew.drew))))
 (Br (!b5)
 (∀ w31 : World, w31 = w7.alloc (.cells #[a1_0, a1_1] 274) →
 az 32 2 w31 s6 1 [a1_0, a1_1] ∧ ∀ (s32 : Sl) (w33 : World), av 274 2 w31 s6 1 [a1_0, a1_1] s32 w33 → Kp w w31 w33 ∧ Kp w7 w31 w33 ∧
 R (.returned s32) w33)
 (R (.returned s6) w7))
theorem rP.vc {a0 a1_0 a1_1 w} (h : rP.pre a0 a1_0 a1_1 w R) : Calls Tryz.prog jM #[a0, .agg #[a1_0, a1_1]] w R :=
 cq ⟨[(4, ⟨[(7, .int .i64), (6, .bool), (5, .slice)], [], []⟩)], [], []⟩ Tryz.func215 h
def rR.pre (a0_0 a0_1 a0_2 : Int) (a0_3 a0_4 : Sl) (w : World) (R : Ending → World → Prop) : Prop :=
 ∀ w0 : World, w0 = w.alloc (.cells #[a0_0, a0_1, a0_2, a0_3, a0_4] 27) →
 ∃ I1 : Nat → Int → Sl → World → Prop,
 (∃ n2, a6 [a0_0, a0_1, a0_2, a0_3, a0_4] ∧ I1 n2 (0) a0_3 w0) ∧
 ∀ (n2 : Nat) (us3 : Nat → Value) (x4 : Int) (s5 : Sl) (w6 : World), I1 n2 x4 s5 w6 →
 Br (decide (x4 < ((a0_4.n : Nat) : Int)))
 (cn a0_4.a x4 a0_4.n ∧ ∃ (x8 : Int) (s9 : Sl), aj w6 (ae a0_4.a ((x4 : Int).toNat * 2)) 0 [x8, s9] ∧
 Calls Tryz.prog jM #[s5, .agg #[x8, s9]] w6 (fun e w10 => ∃ (s11 : Sl), e = .returned s11 ∧ Kp w w6 w10 ∧
 ∃ n7, n7 < n2 ∧ a6 [a0_0, a0_1, a0_2, a0_3, a0_4] ∧ I1 n7 ((IntKind.wrap .i64 (x4 + 1))) s11 w10))
 (R (.returned s5) w6)
theorem rR.vc {a0_0 a0_1 a0_2 a0_3 a0_4 w} (h : rR.pre a0_0 a0_1 a0_2 a0_3 a0_4 w R) : Calls Tryz.prog nv #[.agg #[a0_0, a0_1, a0_2, a0_3, a0_4]] w R :=
 cq ⟨[(3, ⟨[(4, .int .i64), (3, .slice)], [], []⟩)], [], []⟩ Tryz.func216 h
def pK.pre (a0 : Sl) (w : World) (R : Ending → World → Prop) : Prop :=
 Br (decide (((IntKind.wrap .i64 (((a0.n : Nat) : Int) - 2)) : Int) < 0))
 (R (.returned (.tuple #[.slice none 0 0, (3:Int)])) w)
 (cn a0.a (IntKind.wrap .i64 (((a0.n : Nat) : Int) - 2)) a0.n ∧ ∃ (x0 : Int), ld w.drew (ae a0.a (((IntKind.wrap .i64 (((a0.n : Nat) : Int) - 2)) : Int).toNat * 1)) = some (.int .u8 x0) ∧
 cn a0.a (IntKind.wrap .i64 ((IntKind.wrap .i64 (((a0.n : Nat) : Int) - 2)) + 1)) a0.n ∧ ∃ (x1 : Int), ld w.drew (ae a0.a (((IntKind.wrap .i64 ((IntKind.wrap .i64 (((a0.n : Nat) : Int) - 2)) + 1)) : Int).toNat * 1)) = some (.int .u8 x1) ∧
 (0 : Int) ≤ (IntKind.wrap .i64 (((a0.n : Nat) : Int) - 2)) ∧ (IntKind.wrap .i64 (((a0.n : Nat) : Int) - 2)) ≤ ((a0.c : Nat) : Int) ∧ Calls Tryz.prog pF #[.slice (ai a0.a (0) (a0.c) 1) (((IntKind.wrap .i64 (((a0.n : Nat) : Int) - 2)) : Int).toNat - 0) (a0.c - 0)] w.drew (fun e w2 => ∃ (x3 : Int), e = .returned x3 ∧
 aj w2 (ae a0.a (((IntKind.wrap .i64 ((IntKind.wrap .i64 (((a0.n : Nat) : Int) - 2)) + 1)) : Int).toNat * 1)) 0 [.int .u8 x1] ∧ aj w2 (ae a0.a (((IntKind.wrap .i64 (((a0.n : Nat) : Int) - 2)) : Int).toNat * 1)) 0 [.int .u8 x0] ∧ Br (((IntKind.wrap .i64 ((IntKind.wrap .i64 ((IntKind.wrap .i64 x0) * 256)) + (IntKind.wrap .i64 x1))) : Int) != x3)
 (R (.returned (.tuple #[.slice none 0 0, (4:Int)])) w2)
 ((0 : Int) ≤ (IntKind.wrap .i64 (((a0.n : Nat) : Int) - 2)) ∧ (IntKind.wrap .i64 (((a0.n : Nat) : Int) - 2)) ≤ ((a0.c : Nat) : Int) ∧ R (.returned (.tuple #[.slice (ai a0.a (0) (a0.c) 1) (((IntKind.wrap .i64 (((a0.n : Nat) : Int) - 2)) : Int).toNat - 0) (a0.c - 0), (0:Int)])) w2)))
theorem pK.vc {a0 w} (h : pK.pre a0 w R) : Calls Tryz.prog lJ #[a0] w R :=
 cq ⟨[], [], []⟩ Tryz.func217 h
def rS.pre (a0 : Sl) (w : World) (R : Ending → World → Prop) : Prop :=
 ∃ I0 : Nat → Int → Int → World → Prop,
 (∃ n1, I0 n1 (0) (0) w) ∧
 ∀ (n1 : Nat) (us2 : Nat → Value) (x3 x4 : Int) (w5 : World), I0 n1 x3 x4 w5 →
 Br (decide (x3 < ((a0.n : Nat) : Int)))
 (cn a0.a x3 a0.n ∧ ∃ (x7 : Int), ld w5 (ae a0.a ((x3 : Int).toNat * 1)) = some (.int .u8 x7) ∧
 ∃ n6, n6 < n1 ∧ I0 n6 ((IntKind.wrap .i64 (x3 + 1))) ((IntKind.wrap .i64 ((IntKind.wrap .i64 (x4 * 256)) + (IntKind.wrap .i64 x7)))) w5)
 (R (.returned x4) w5)
theorem rS.vc {a0 w} (h : rS.pre a0 w R) : Calls Tryz.prog jN #[a0] w R :=
 cq ⟨[(3, ⟨[(4, .int .i64), (3, .int .i64)], [], []⟩)], [], []⟩ Tryz.func218 h
def uM.pre (a0 : Sl) (w : World) (R : Ending → World → Prop) : Prop :=
 Calls Tryz.prog nw #[(65535:Int), a0] w (fun e w0 => ∃ (x1 : Int), e = .returned x1 ∧
 R (.returned x1) w0)
theorem uM.vc {a0 w} (h : uM.pre a0 w R) : Calls Tryz.prog pF #[a0] w R :=
 cq ⟨[], [], []⟩ Tryz.func240 h
def rT.pre (a0 : Int) (a1 : Sl) (w : World) (R : Ending → World → Prop) : Prop :=
 ∃ I0 : Nat → Int → Int → World → Prop,
 (∃ n1, I0 n1 (0) a0 w) ∧
 ∀ (n1 : Nat) (us2 : Nat → Value) (x3 x4 : Int) (w5 : World), I0 n1 x3 x4 w5 →
 Br (decide (x3 < ((a1.n : Nat) : Int)))
 (cn a1.a x3 a1.n ∧ ∃ (x7 : Int), ld w5 (ae a1.a ((x3 : Int).toNat * 1)) = some (.int .u8 x7) ∧
 ∃ I8 : Nat → Int → Int → World → Prop,
 (∃ n9, I8 n9 (0) ((dt .i64 x4 (IntKind.wrap .i64 ((IntKind.wrap .i64 x7) * 256)))) w5) ∧
 ∀ (n9 : Nat) (us10 : Nat → Value) (x11 x12 : Int) (w13 : World), I8 n9 x11 x12 w13 →
 Br (decide (x11 < 8))
 (Br (decide (((IntKind.wrap .i64 (x12 * 2)) : Int) ≥ 65536))
 (∃ n14, n14 < n9 ∧ I8 n14 ((IntKind.wrap .i64 (x11 + 1))) ((dt .i64 (IntKind.wrap .i64 ((IntKind.wrap .i64 (x12 * 2)) - 65536)) 4129)) w13)
 (∃ n14, n14 < n9 ∧ I8 n14 ((IntKind.wrap .i64 (x11 + 1))) ((IntKind.wrap .i64 (x12 * 2))) w13))
 (∃ n6, n6 < n1 ∧ I0 n6 ((IntKind.wrap .i64 (x3 + 1))) x12 w13))
 (R (.returned x4) w5)
theorem rT.vc {a0 a1 w} (h : rT.pre a0 a1 w R) : Calls Tryz.prog nw #[a0, a1] w R :=
 cq ⟨[(6, ⟨[(6, .int .i64), (0, .int .i64)], [], []⟩), (2, ⟨[(5, .int .i64), (0, .int .i64)], [], []⟩)], [], []⟩ Tryz.func248 h
end Go.Proofs.YtalpkjfpmdpbiaaGreatDoor
