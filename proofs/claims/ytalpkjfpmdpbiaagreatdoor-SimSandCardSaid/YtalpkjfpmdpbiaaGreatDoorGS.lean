import Derived.Test.YtalpkjfpmdpbiaaGreatDoorG
set_option linter.all false
namespace Go.Proofs.YtalpkjfpmdpbiaaGreatDoor
open Go Go.Vc Go.RowKit Go.Proofs
set_option maxRecDepth 100000
set_option maxHeartbeats 8000000
variable {R:Ending->World->Prop}
set_option linter.unusedVariables false
abbrev cR:FuncId:=232
abbrev g7:FuncId:=194
abbrev gd:FuncId:=195
abbrev lK:FuncId:=233
abbrev jQ:FuncId:=229
abbrev qG:FuncId:=205
abbrev kl:FuncId:=193
abbrev jk:FuncId:=151
abbrev jR:FuncId:=118
abbrev q7:FuncId:=230
abbrev u5:FuncId:=237
abbrev qH:FuncId:=244
abbrev ft:FuncId:=245
abbrev nE:FuncId:=251
abbrev gf:FuncId:=252
abbrev nG:FuncId:=257
abbrev km:FuncId:=263
abbrev ck:FuncId:=231
abbrev eA:FuncId:=246
def fV.pre (a0 : Addr) (w : World) (R : Ending → World → Prop) : Prop :=
 ∃ (x0 : Int), ld w (ae (some a0) 2) = some (.int .i64 x0) ∧
 Br (decide (x0 > 0))
 (∃ (x1 : Int), ld w (ae (some a0) 2) = some (.int .i64 x1) ∧
 (true = true ∧ Wr w (ae (some a0) 2) 1) ∧ (∀ w2 : World, w2 = aA w (ae (some a0) 2) [(IntKind.wrap .i64 (x1 - 1))] →
 R (.returned (.bool false)) w2))
 (∃ (x3 : Int), ld w (ae (some a0) 1) = some (.int .i64 x3) ∧
 Br (decide (x3 > 0))
 (∃ (x4 : Int), ld w (ae (some a0) 1) = some (.int .i64 x4) ∧
 (true = true ∧ Wr w (ae (some a0) 1) 1) ∧ (∀ w5 : World, w5 = aA w (ae (some a0) 1) [(IntKind.wrap .i64 (x4 - 1))] →
 R (.returned (.bool (decide (x3 > 0)))) w5))
 (R (.returned (.bool (decide (x3 > 0)))) w))
theorem fV.vc {a0 w} (h : fV.pre a0 w R) : Calls Tryz.prog cR #[.pointer (some a0)] w R :=
 cq ⟨[], [], []⟩ Tryz.func232 h
def ki.pre (a0 : Addr) (a1 : Int) (a2 : Sl) (w : World) (R : Ending → World → Prop) : Prop :=
 Calls Tryz.prog cR #[.pointer (some a0)] w (fun e w0 => ∃ (b1 : Bool), e = .returned (.bool b1) ∧
 Br b1
 (R (.returned (9:Int)) w0)
 (Calls Tryz.prog 202 #[.pointer (some a0)] w0 (fun e w2 => ∃ (m3 : Option Nat), e = .returned (.map m3) ∧
 ∃ (x4 : Int), ld w2.drew (ae (some a0) 0) = some (.int .i64 x4) ∧
 (Calls Tryz.prog lK #[.map m3] w2.drew (fun e w5 => ∃ (x6 : Int), e = .returned x6 ∧
 aj w5 (ae (some a0) 0) 0 [x4] ∧ ∃ (G7 : Value → Prop) (kvs8 : List (Value × Value)), dD Tryz.prog 3 G7 ∧ aJ G7 w5 m3 kvs8 ∧ G7 a1 ∧ ∃ (s9 : Sl), ∃ b10 : Bool, vP kvs8 a1 (.slice none 0 0) s9 b10 ∧
 aj w5 (ae (some a0) 0) 0 [x4] ∧ Br (decide (((IntKind.wrap .i64 (x6 - ((s9.n : Nat) : Int))) : Int) > (IntKind.wrap .i64 (x4 - ((a2.n : Nat) : Int)))))
 (R (.returned (8:Int)) w5)
 (∃ (s11 : Sl), ld w5.drew (ae (some a0) 4) = some (.slice s11.a s11.n s11.c) ∧
 Calls Tryz.prog 203 #[a2] w5.drew (fun e w12 => ∃ (s13 : Sl), e = .returned s13 ∧
 aj w12 (ae (some a0) 4) 0 [s11] ∧ ∀ w14 : World, w14 = w12.alloc (.cells #[a1, s13] 289) →
 az 32 2 w14 s11 1 [a1, s13] ∧ ∀ (s15 : Sl) (w16 : World), av 289 2 w14 s11 1 [a1, s13] s15 w16 → Kp w12 w14 w16 ∧
 (true = true ∧ Wr w16 (ae (some a0) 4) 1) ∧ bD (ae (some a0) 4) ≠ some w12.heap.size ∧ (∀ w17 : World, w17 = aA w16 (ae (some a0) 4) [s15] →
 R (.returned (0:Int)) w17))))) ∧ (∃ (G18 : Value → Prop) (kvs19 : List (Value × Value)), dD Tryz.prog 3 G18 ∧ aJ G18 w2.drew m3 kvs19 ∧ G18 a1 ∧ ∃ (s20 : Sl), ∃ b21 : Bool, vP kvs19 a1 (.slice none 0 0) s20 b21 ∧
 aj w2.drew (ae (some a0) 0) 0 [x4] ∧ Calls Tryz.prog lK #[.map m3] w2.drew (fun e w22 => ∃ (x23 : Int), e = .returned x23 ∧
 aj w22 (ae (some a0) 0) 0 [x4] ∧ Br (decide (((IntKind.wrap .i64 (x23 - ((s20.n : Nat) : Int))) : Int) > (IntKind.wrap .i64 (x4 - ((a2.n : Nat) : Int)))))
 (R (.returned (8:Int)) w22)
 (∃ (s24 : Sl), ld w22.drew (ae (some a0) 4) = some (.slice s24.a s24.n s24.c) ∧
 Calls Tryz.prog 203 #[a2] w22.drew (fun e w25 => ∃ (s26 : Sl), e = .returned s26 ∧
 aj w25 (ae (some a0) 4) 0 [s24] ∧ ∀ w27 : World, w27 = w25.alloc (.cells #[a1, s26] 289) →
 az 32 2 w27 s24 1 [a1, s26] ∧ ∀ (s28 : Sl) (w29 : World), av 289 2 w27 s24 1 [a1, s26] s28 w29 → Kp w25 w27 w29 ∧
 (true = true ∧ Wr w29 (ae (some a0) 4) 1) ∧ bD (ae (some a0) 4) ≠ some w25.heap.size ∧ (∀ w30 : World, w30 = aA w29 (ae (some a0) 4) [s28] →
 R (.returned (0:Int)) w30))))))))
theorem ki.vc {a0 a1 a2 w} (h : ki.pre a0 a1 a2 w R) : Calls Tryz.prog g7 #[.pointer (some a0), a1, a2] w R :=
 cq ⟨[], [], []⟩ Tryz.func194 h
def jl.pre (a0 : Addr) (w : World) (R : Ending → World → Prop) : Prop :=
 Calls Tryz.prog cR #[.pointer (some a0)] w (fun e w0 => ∃ (b1 : Bool), e = .returned (.bool b1) ∧
 Br b1
 (R (.returned (9:Int)) w0)
 (Calls Tryz.prog 202 #[.pointer (some a0)] w0 (fun e w2 => ∃ (m3 : Option Nat), e = .returned (.map m3) ∧
 (true = true ∧ Wr w2 (ae (some a0) 3) 1) ∧ (∀ w4 : World, w4 = aA w2 (ae (some a0) 3) [.map m3] →
 (true = true ∧ Wr w4 (ae (some a0) 4) 1) ∧ (∀ w5 : World, w5 = aA w4 (ae (some a0) 4) [.slice none 0 0] →
 R (.returned (0:Int)) w5)))))
theorem jl.vc {a0 w} (h : jl.pre a0 w R) : Calls Tryz.prog gd #[.pointer (some a0)] w R :=
 cq ⟨[], [], []⟩ Tryz.func195 h
def si.pre (a0 : Sl) (a1 a2 : Int) (w : World) (R : Ending → World → Prop) : Prop :=
 ∃ I0 : Nat → Int → Sl → World → Prop,
 (∃ n1, I0 n1 ((IntKind.wrap .i64 (a2 - 1))) a0 w) ∧
 ∀ (n1 : Nat) (us2 : Nat → Value) (x3 : Int) (s4 : Sl) (w5 : World), I0 n1 x3 s4 w5 →
 Br (decide (x3 ≥ 0))
 (aV (Hu (IntKind.wrap .i64 (8 * x3))) (∀ w7 : World, w7 = w5.alloc (.cells #[.int .u8 (IntKind.wrap .u8 ((a1 : Int).fdiv (2 ^ (min ((IntKind.wrap .i64 (8 * x3)) : Int).toNat 64))))] 5) →
 az 1 1 w7 s4 1 [.int .u8 (IntKind.wrap .u8 ((a1 : Int).fdiv (2 ^ (min ((IntKind.wrap .i64 (8 * x3)) : Int).toNat 64))))] ∧ ∀ (s8 : Sl) (w9 : World), av 5 1 w7 s4 1 [.int .u8 (IntKind.wrap .u8 ((a1 : Int).fdiv (2 ^ (min ((IntKind.wrap .i64 (8 * x3)) : Int).toNat 64))))] s8 w9 → Kp w5 w7 w9 ∧
 ∃ n6, n6 < n1 ∧ I0 n6 ((IntKind.wrap .i64 (x3 - 1))) s8 w9))
 (R (.returned s4) w5)
theorem si.vc {a0 a1 a2 w} (h : si.pre a0 a1 a2 w R) : Calls Tryz.prog jQ #[a0, a1, a2] w R :=
 cq ⟨[(2, ⟨[(7, .int .i64), (0, .slice)], [], []⟩)], [], []⟩ Tryz.func229 h
def pR.pre (a0 : Sl) (w : World) (R : Ending → World → Prop) : Prop :=
 ∃ I0 : Nat → Int → Int → World → Prop,
 (∃ n1, I0 n1 (0) (0) w) ∧
 ∀ (n1 : Nat) (us2 : Nat → Value) (x3 x4 : Int) (w5 : World), I0 n1 x3 x4 w5 →
 Br (decide (x3 < ((a0.n : Nat) : Int)))
 (cn a0.a x3 a0.n ∧ ∃ (x7 : Int), ld w5 (ae a0.a ((x3 : Int).toNat * 1)) = some (.int .u8 x7) ∧
 ∃ n6, n6 < n1 ∧ I0 n6 ((IntKind.wrap .i64 (x3 + 1))) ((yD .i64 (IntKind.wrap .i64 (x4 * 2 ^ (min (8 : Int).toNat 64))) (IntKind.wrap .i64 x7))) w5)
 (R (.returned x4) w5)
theorem pR.vc {a0 w} (h : pR.pre a0 w R) : Calls Tryz.prog qG #[a0] w R :=
 cq ⟨[(3, ⟨[(8, .int .i64), (3, .int .i64)], [], []⟩)], [], []⟩ Tryz.func205 h
def nH.pre (a0 : Int) (a1 : Sl) (w : World) (R : Ending → World → Prop) : Prop :=
 Br (decide (a0 < 1))
 (R (.returned (.tuple #[.slice none 0 0, (1:Int)])) w)
 (Br (decide (a0 > 1073741824))
 (R (.returned (.tuple #[.slice none 0 0, (1:Int)])) w)
 (Br (decide ((((a1.n : Nat) : Int) : Int) > 65536))
 (R (.returned (.tuple #[.slice none 0 0, (1:Int)])) w)
 (Calls Tryz.prog jQ #[.slice none 0 0, a0, (4:Int)] w (fun e w0 => ∃ (s1 : Sl), e = .returned s1 ∧
 Calls Tryz.prog jQ #[s1, .int .i64 ((a1.n : Nat) : Int), (3:Int)] w0 (fun e w2 => ∃ (s3 : Sl), e = .returned s3 ∧
 ∀ w4 : World, w4 = w2.alloc (.cells #[s3, a1] 132) →
 Calls Tryz.prog ck #[.slice (some ⟨w2, 0, none⟩) 2 2] w4 (fun e w5 => ∃ (s6 : Sl), e = .returned s6 ∧
 Calls Tryz.prog q7 #[s6] w5 (fun e w7 => ∃ (s8 : Sl), e = .returned s8 ∧
 R (.returned (.tuple #[s8, (0:Int)])) w7)))))))
theorem nH.vc {a0 a1 w} (h : nH.pre a0 a1 w R) : Calls Tryz.prog kl #[a0, a1] w R :=
 cq ⟨[], [], []⟩ Tryz.func193 h
def gg.pre (a0 : Addr) (a1 : Int) (a2 : Sl) (w : World) (R : Ending → World → Prop) : Prop :=
 Calls Tryz.prog 117 #[a1] w (fun e w0 => ∃ (b1 : Bool), e = .returned (.bool b1) ∧
 Br (!b1)
 (R (.returned (1:Int)) w0)
 (Calls Tryz.prog jR #[.pointer (some a0), a1] w0 (fun e w2 => ∃ (x3 x4 : Int) (s5 : Sl), e = .returned (.agg #[x3, x4, s5]) ∧
 ∀ w6 : World, w6 = w2.alloc (.cells #[(0:Int), (0:Int), .slice none 0 0] 186) →
 ∀ w7 : World, w7 = w6.setRow w2 #[x3, x4, s5] →
 Calls Tryz.prog kl #[(IntKind.wrap .i64 (x4 + 1)), a2] w7 (fun e w8 => ∃ (s9 : Sl) (x10 : Int), e = .returned (.tuple #[s9, x10]) ∧ Kp w2 w7 w8 ∧
 Br (x10 != 0)
 (R (.returned x10) w8)
 (∃ (p11 : Option Addr), ld w8.drew (ae (ae (some a0) 0) 0) = some (.pointer p11) ∧
 Calls Tryz.prog g7 #[.pointer p11, .int .i64 (dt .i64 x3 1), s9] w8.drew (fun e w12 => ∃ (x13 : Int), e = .returned x13 ∧ Kp w2 w8.drew w12 ∧
 aj w12 (some ⟨w2, 0, none⟩) 0 [x3] ∧ Br (x13 != 0)
 (R (.returned x13) w12)
 (∃ (p14 : Option Addr), ld w12 (ae (ae (some a0) 0) 0) = some (.pointer p14) ∧
 Calls Tryz.prog gd #[.pointer p14] w12 (fun e w15 => ∃ (x16 : Int), e = .returned x16 ∧ Kp w2 w12 w15 ∧
 R (.returned x16) w15))))))))
theorem gg.vc {a0 a1 a2 w} (h : gg.pre a0 a1 a2 w R) : Calls Tryz.prog jk #[.pointer (some a0), a1, a2] w R :=
 cq ⟨[], [], []⟩ Tryz.func151 h
def g9.pre (a0 : Addr) (a1 : Int) (w : World) (R : Ending → World → Prop) : Prop :=
 ∀ w0 : World, w0 = w.alloc (.cells #[(0:Int), (0:Int), .slice none 0 0] 186) →
 ∀ w1 : World, w1 = w0.alloc (.cells #[(0:Int), (0:Int), .slice none 0 0] 186) →
 ∀ w2 : World, w2 = w1.setRow w0 #[(IntKind.wrap .i64 ((IntKind.wrap .i64 (2 * a1)) + 1)), (0:Int), .slice none 0 0] →
 ∃ I3 : Nat → Int → Int → Int → Sl → World → Prop,
 (∃ n4, a6 [(0:Int), (0:Int), .slice none 0 0] ∧ I3 n4 (0) ((IntKind.wrap .i64 ((IntKind.wrap .i64 (2 * a1)) + 1))) (0) ⟨none, 0, 0⟩ w2) ∧
 ∀ (n4 : Nat) (us5 : Nat → Value) (x6 x7 x8 : Int) (s9 : Sl) (w10 : World), I3 n4 x6 x7 x8 s9 w10 →
 Br (decide (x6 < 2))
 (((0 : Int) ≤ x6 ∧ x6 < ((2 : Nat) : Int)) ∧ ∃ (x12 : Int), ([(IntKind.wrap .i64 (2 * a1)), (IntKind.wrap .i64 ((IntKind.wrap .i64 (2 * a1)) + 1))] : List Value)[(x6 : Int).toNat * 1]? = some (.int .i64 x12) ∧
 ∃ (p13 : Option Addr), ld w10 (ae (ae (some a0) 0) 0) = some (.pointer p13) ∧
 Calls Tryz.prog 158 #[.pointer p13, x12] w10 (fun e w14 => ∃ (s15 : Sl) (b16 : Bool), e = .returned (.tuple #[s15, .bool b16]) ∧ Kp w w10 w14 ∧ Kp w0 w10 w14 ∧
 Calls Tryz.prog 159 #[s15] w14 (fun e w17 => ∃ (x18 : Int) (s19 : Sl) (x20 : Int), e = .returned (.tuple #[x18, s19, x20]) ∧ Kp w w14 w17 ∧ Kp w0 w14 w17 ∧
 Br (x20 == 0)
 (Br (decide (x18 > x8))
 (∀ w21 : World, w21 = w17.setRow w0 #[x12, x18, s19] →
 ∃ n11, n11 < n4 ∧ a6 [(0:Int), (0:Int), .slice none 0 0] ∧ I3 n11 ((IntKind.wrap .i64 (x6 + 1))) x12 x18 s19 w21)
 (∃ n11, n11 < n4 ∧ a6 [(0:Int), (0:Int), .slice none 0 0] ∧ I3 n11 ((IntKind.wrap .i64 (x6 + 1))) x7 x8 s9 w17))
 (∃ n11, n11 < n4 ∧ a6 [(0:Int), (0:Int), .slice none 0 0] ∧ I3 n11 ((IntKind.wrap .i64 (x6 + 1))) x7 x8 s9 w17))))
 (∀ w22 : World, w22 = w10.setRow w #[x7, x8, s9] →
 R (.returned (.agg #[x7, x8, s9])) w22)
theorem g9.vc {a0 a1 w} (h : g9.pre a0 a1 w R) : Calls Tryz.prog jR #[.pointer (some a0), a1] w R :=
 cq ⟨[(3, ⟨[(23, .int .i64)], [(1, [.int .i64, .int .i64, .slice])], []⟩)], [], []⟩ Tryz.func118 h
def xF.pre (a0 : Sl) (w : World) (R : Ending → World → Prop) : Prop :=
 Calls Tryz.prog qH #[a0] w (fun e w0 => ∃ (x1 : Int), e = .returned (.int .u16 x1) ∧
 Calls Tryz.prog ft #[.int .u16 x1] w0 (fun e w2 => ∃ (x3 x4 : Int), e = .returned (.agg #[.int .u8 x3, .int .u8 x4]) ∧
 ∀ w5 : World, w5 = w2.alloc (.cells #[.int .u8 0, .int .u8 0] 296) →
 (true = true ∧ Wr w5 (some ⟨w2, 0, none⟩) 2) ∧ (∀ w6 : World, w6 = aA w5 (some ⟨w2, 0, none⟩) [.int .u8 x3, .int .u8 x4] →
 ∀ w7 : World, w7 = w6.alloc (.cells #[a0, .slice (ai (some ⟨w2, 0, none⟩) (0) (2) 1) (2 - 0) (2 - 0)] 132) →
 Calls Tryz.prog ck #[.slice (some ⟨w6, 0, none⟩) 2 2] w7 (fun e w8 => ∃ (s9 : Sl), e = .returned s9 ∧
 R (.returned s9) w8))))
theorem xF.vc {a0 w} (h : xF.pre a0 w R) : Calls Tryz.prog q7 #[a0] w R :=
 cq ⟨[], [], []⟩ Tryz.func230 h
def u6.pre (a0 : Sl) (w : World) (R : Ending → World → Prop) : Prop :=
 Br (decide ((((a0.n : Nat) : Int) : Int) ≥ 2))
 (Calls Tryz.prog qH #[a0] w (fun e w0 => ∃ (x1 : Int), e = .returned (.int .u16 x1) ∧
 R (.returned (.bool (x1 == 0))) w0))
 (R (.returned (.bool false)) w)
theorem u6.vc {a0 w} (h : u6.pre a0 w R) : Calls Tryz.prog u5 #[a0] w R :=
 cq ⟨[], [], []⟩ Tryz.func237 h
def Bf.pre (a0 : Sl) (w : World) (R : Ending → World → Prop) : Prop :=
 Calls Tryz.prog nE #[] w (fun e w0 => ∃ (x1 : Int), e = .returned (.int .u16 x1) ∧
 Calls Tryz.prog gf #[.int .u16 x1, a0] w0 (fun e w2 => ∃ (x3 : Int), e = .returned (.int .u16 x3) ∧
 R (.returned (.int .u16 x3)) w2))
theorem Bf.vc {a0 w} (h : Bf.pre a0 w R) : Calls Tryz.prog qH #[a0] w R :=
 cq ⟨[], [], []⟩ Tryz.func244 h
def hM.pre (a0 : Int) (w : World) (R : Ending → World → Prop) : Prop :=
 ∀ w0 : World, w0 = w.alloc (.cells #[.int .u8 0, .int .u8 0] 296) →
 (true = true ∧ Wr w0 (some ⟨w, 0, none⟩) 2) ∧ (∀ w1 : World, w1 = aA w0 (some ⟨w, 0, none⟩) [.int .u8 (IntKind.wrap .u8 ((a0 : Int).fdiv (2 ^ (min (8 : Int).toNat 16)))), .int .u8 (IntKind.wrap .u8 a0)] →
 ∃ (x2 x3 : Int), aj w1 (some ⟨w, 0, none⟩) 0 [.int .u8 x2, .int .u8 x3] ∧
 R (.returned (.agg #[.int .u8 x2, .int .u8 x3])) w1)
theorem hM.vc {a0 w} (h : hM.pre a0 w R) : Calls Tryz.prog ft #[.int .u16 a0] w R :=
 cq ⟨[], [], []⟩ Tryz.func245 h
def sj.pre  (w : World) (R : Ending → World → Prop) : Prop :=
 R (.returned (.int .u16 65535)) w
theorem sj.vc {w} (h : sj.pre  w R) : Calls Tryz.prog nE #[] w R :=
 cq ⟨[], [], []⟩ Tryz.func251 h
def jm.pre (a0 : Int) (a1 : Sl) (w : World) (R : Ending → World → Prop) : Prop :=
 Calls Tryz.prog nG #[] w (fun e w0 => ∃ (x1 x2 x3 x4 x5 x6 x7 x8 x9 x10 x11 x12 x13 x14 x15 x16 : Int), e = .returned (.agg #[.int .u16 x1, .int .u16 x2, .int .u16 x3, .int .u16 x4, .int .u16 x5, .int .u16 x6, .int .u16 x7, .int .u16 x8, .int .u16 x9, .int .u16 x10, .int .u16 x11, .int .u16 x12, .int .u16 x13, .int .u16 x14, .int .u16 x15, .int .u16 x16]) ∧
 ∀ w17 : World, w17 = w0.alloc (.cells #[.int .u16 0, .int .u16 0, .int .u16 0, .int .u16 0, .int .u16 0, .int .u16 0, .int .u16 0, .int .u16 0, .int .u16 0, .int .u16 0, .int .u16 0, .int .u16 0, .int .u16 0, .int .u16 0, .int .u16 0, .int .u16 0] 314) →
 (true = true ∧ Wr w17 (some ⟨w0, 0, none⟩) 16) ∧ (∀ w18 : World, w18 = aA w17 (some ⟨w0, 0, none⟩) [.int .u16 x1, .int .u16 x2, .int .u16 x3, .int .u16 x4, .int .u16 x5, .int .u16 x6, .int .u16 x7, .int .u16 x8, .int .u16 x9, .int .u16 x10, .int .u16 x11, .int .u16 x12, .int .u16 x13, .int .u16 x14, .int .u16 x15, .int .u16 x16] →
 ∃ I19 : Nat → Int → Int → World → Prop,
 (∃ n20, I19 n20 (0) a0 w18) ∧
 ∀ (n20 : Nat) (us21 : Nat → Value) (x22 x23 : Int) (w24 : World), I19 n20 x22 x23 w24 →
 Br (decide (x22 < ((a1.n : Nat) : Int)))
 (cn a1.a x22 a1.n ∧ ∃ (x26 : Int), ld w24 (ae a1.a ((x22 : Int).toNat * 1)) = some (.int .u8 x26) ∧
 (0 : Int) ≤ (dt .u16 ((x23 : Int).fdiv (2 ^ (min (12 : Int).toNat 16))) (IntKind.wrap .u16 ((x26 : Int).fdiv (2 ^ (min (4 : Int).toNat 8))))) ∧ ((dt .u16 ((x23 : Int).fdiv (2 ^ (min (12 : Int).toNat 16))) (IntKind.wrap .u16 ((x26 : Int).fdiv (2 ^ (min (4 : Int).toNat 8))))) : Int) < ((16 : Nat) : Int) ∧ ∃ (x27 : Int), ld w24 (ae (some ⟨w0, 0, none⟩) (((dt .u16 ((x23 : Int).fdiv (2 ^ (min (12 : Int).toNat 16))) (IntKind.wrap .u16 ((x26 : Int).fdiv (2 ^ (min (4 : Int).toNat 8))))) : Int).toNat * 1)) = some (.int .u16 x27) ∧
 (0 : Int) ≤ (dt .u16 (((dt .u16 (IntKind.wrap .u16 (x23 * 2 ^ (min (4 : Int).toNat 16))) x27) : Int).fdiv (2 ^ (min (12 : Int).toNat 16))) (IntKind.wrap .u16 (vH .u8 x26 15))) ∧ ((dt .u16 (((dt .u16 (IntKind.wrap .u16 (x23 * 2 ^ (min (4 : Int).toNat 16))) x27) : Int).fdiv (2 ^ (min (12 : Int).toNat 16))) (IntKind.wrap .u16 (vH .u8 x26 15))) : Int) < ((16 : Nat) : Int) ∧ ∃ (x28 : Int), ld w24 (ae (some ⟨w0, 0, none⟩) (((dt .u16 (((dt .u16 (IntKind.wrap .u16 (x23 * 2 ^ (min (4 : Int).toNat 16))) x27) : Int).fdiv (2 ^ (min (12 : Int).toNat 16))) (IntKind.wrap .u16 (vH .u8 x26 15))) : Int).toNat * 1)) = some (.int .u16 x28) ∧
 ∃ n25, n25 < n20 ∧ I19 n25 ((IntKind.wrap .i64 (x22 + 1))) ((dt .u16 (IntKind.wrap .u16 ((dt .u16 (IntKind.wrap .u16 (x23 * 2 ^ (min (4 : Int).toNat 16))) x27) * 2 ^ (min (4 : Int).toNat 16))) x28)) w24)
 (R (.returned (.int .u16 x23)) w24)))
theorem jm.vc {a0 a1 w} (h : jm.pre a0 a1 w R) : Calls Tryz.prog gf #[.int .u16 a0, a1] w R :=
 cq ⟨[(3, ⟨[(11, .int .i64), (0, .int .u16)], [], []⟩)], [], []⟩ Tryz.func252 h
def sk.pre  (w : World) (R : Ending → World → Prop) : Prop :=
 ∀ w0 : World, w0 = w.alloc (.cells #[.int .u16 0, .int .u16 0, .int .u16 0, .int .u16 0, .int .u16 0, .int .u16 0, .int .u16 0, .int .u16 0, .int .u16 0, .int .u16 0, .int .u16 0, .int .u16 0, .int .u16 0, .int .u16 0, .int .u16 0, .int .u16 0] 314) →
 ∀ w1 : World, w1 = w0.alloc (.cells #[.int .u16 0, .int .u16 0, .int .u16 0, .int .u16 0, .int .u16 0, .int .u16 0, .int .u16 0, .int .u16 0, .int .u16 0, .int .u16 0, .int .u16 0, .int .u16 0, .int .u16 0, .int .u16 0, .int .u16 0, .int .u16 0] 314) →
 ∃ I2 : Nat → Int → World → Prop,
 (∃ n3, I2 n3 (0) w1) ∧
 ∀ (n3 : Nat) (us4 : Nat → Value) (x5 : Int) (w6 : World), I2 n3 x5 w6 →
 Br (decide (x5 < 16))
 (∃ I8 : Nat → Int → Int → World → Prop,
 (∃ n9, I8 n9 (0) ((IntKind.wrap .u16 ((IntKind.wrap .u16 x5) * 2 ^ (min (12 : Int).toNat 16)))) w6) ∧
 ∀ (n9 : Nat) (us10 : Nat → Value) (x11 x12 : Int) (w13 : World), I8 n9 x11 x12 w13 →
 Br (decide (x11 < 4))
 (Calls Tryz.prog km #[.int .u16 x12] w13 (fun e w15 => ∃ (x16 : Int), e = .returned (.int .u16 x16) ∧
 ∃ n14, n14 < n9 ∧ I8 n14 ((IntKind.wrap .i64 (x11 + 1))) x16 w15))
 ((0 : Int) ≤ x5 ∧ x5 < ((16 : Nat) : Int) ∧ (true = true ∧ Wr w13 (ae (some ⟨w0, 0, none⟩) ((x5 : Int).toNat * 1)) 1) ∧ (∀ w17 : World, w17 = aA w13 (ae (some ⟨w0, 0, none⟩) ((x5 : Int).toNat * 1)) [.int .u16 x12] →
 ∃ n7, n7 < n3 ∧ I2 n7 ((IntKind.wrap .i64 (x5 + 1))) w17)))
 (∃ (x18 x19 x20 x21 x22 x23 x24 x25 x26 x27 x28 x29 x30 x31 x32 x33 : Int), aj w6 (some ⟨w0, 0, none⟩) 0 [.int .u16 x18, .int .u16 x19, .int .u16 x20, .int .u16 x21, .int .u16 x22, .int .u16 x23, .int .u16 x24, .int .u16 x25, .int .u16 x26, .int .u16 x27, .int .u16 x28, .int .u16 x29, .int .u16 x30, .int .u16 x31, .int .u16 x32, .int .u16 x33] ∧
 (true = true ∧ Wr w6 (some ⟨w, 0, none⟩) 16) ∧ (∀ w34 : World, w34 = aA w6 (some ⟨w, 0, none⟩) [.int .u16 x18, .int .u16 x19, .int .u16 x20, .int .u16 x21, .int .u16 x22, .int .u16 x23, .int .u16 x24, .int .u16 x25, .int .u16 x26, .int .u16 x27, .int .u16 x28, .int .u16 x29, .int .u16 x30, .int .u16 x31, .int .u16 x32, .int .u16 x33] →
 ∃ (x35 x36 x37 x38 x39 x40 x41 x42 x43 x44 x45 x46 x47 x48 x49 x50 : Int), aj w34 (some ⟨w, 0, none⟩) 0 [.int .u16 x35, .int .u16 x36, .int .u16 x37, .int .u16 x38, .int .u16 x39, .int .u16 x40, .int .u16 x41, .int .u16 x42, .int .u16 x43, .int .u16 x44, .int .u16 x45, .int .u16 x46, .int .u16 x47, .int .u16 x48, .int .u16 x49, .int .u16 x50] ∧
 R (.returned (.agg #[.int .u16 x35, .int .u16 x36, .int .u16 x37, .int .u16 x38, .int .u16 x39, .int .u16 x40, .int .u16 x41, .int .u16 x42, .int .u16 x43, .int .u16 x44, .int .u16 x45, .int .u16 x46, .int .u16 x47, .int .u16 x48, .int .u16 x49, .int .u16 x50])) w34))
theorem sk.vc {w} (h : sk.pre  w R) : Calls Tryz.prog nG #[] w R :=
 cq ⟨[(8, ⟨[(11, .int .i64), (4, .int .u16)], [], []⟩), (4, ⟨[(5, .int .i64)], [], []⟩)], [], []⟩ Tryz.func257 h
def nI.pre (a0 : Int) (w : World) (R : Ending → World → Prop) : Prop :=
 Br (((vH .u16 a0 32768) : Int) != 0)
 (R (.returned (.int .u16 (dt .u16 (IntKind.wrap .u16 (a0 * 2 ^ (min (1 : Int).toNat 16))) 4129))) w)
 (R (.returned (.int .u16 (IntKind.wrap .u16 (a0 * 2 ^ (min (1 : Int).toNat 16))))) w)
theorem nI.vc {a0 w} (h : nI.pre a0 w R) : Calls Tryz.prog km #[.int .u16 a0] w R :=
 cq ⟨[], [], []⟩ Tryz.func263 h
def eB.pre (a0 : Sl) (w : World) (R : Ending → World → Prop) : Prop :=
 ∃ I0 : Nat → Int → Int → World → Prop,
 (∃ n1, I0 n1 (0) (0) w) ∧
 ∀ (n1 : Nat) (us2 : Nat → Value) (x3 x4 : Int) (w5 : World), I0 n1 x3 x4 w5 →
 Br (decide (x3 < ((a0.n : Nat) : Int)))
 (cn a0.a x3 a0.n ∧ ∃ (s7 : Sl), ld w5 (ae a0.a ((x3 : Int).toNat * 1)) = some (.slice s7.a s7.n s7.c) ∧
 Br (decide (((IntKind.wrap .i64 (x4 + ((s7.n : Nat) : Int))) : Int) < 0))
 (False)
 (∃ n6, n6 < n1 ∧ I0 n6 ((IntKind.wrap .i64 (x3 + 1))) ((IntKind.wrap .i64 (x4 + ((s7.n : Nat) : Int)))) w5))
 (Calls Tryz.prog eA #[.slice none 0 0, x4] w5 (fun e w8 => ∃ (s9 : Sl), e = .returned s9 ∧
 ∃ I10 : Nat → Int → Sl → World → Prop,
 (∃ n11, I10 n11 (0) s9 w8) ∧
 ∀ (n11 : Nat) (us12 : Nat → Value) (x13 : Int) (s14 : Sl) (w15 : World), I10 n11 x13 s14 w15 →
 Br (decide (x13 < ((a0.n : Nat) : Int)))
 (cn a0.a x13 a0.n ∧ ∃ (s17 : Sl), ld w15 (ae a0.a ((x13 : Int).toNat * 1)) = some (.slice s17.a s17.n s17.c) ∧
 ∃ l18 : List Value, Rd w15 s17.a l18 ∧ az 1 1 w15 s14 s17.n l18 ∧ ∀ (s19 : Sl) (w20 : World), av 5 1 w15 s14 s17.n l18 s19 w20 →
 ∃ n16, n16 < n11 ∧ I10 n16 ((IntKind.wrap .i64 (x13 + 1))) s19 w20)
 (R (.returned s14) w15)))
theorem eB.vc {a0 w} (h : eB.pre a0 w R) : Calls Tryz.prog ck #[a0] w R :=
 cq ⟨[(11, ⟨[(27, .int .i64), (6, .slice)], [], []⟩), (3, ⟨[(11, .int .i64), (3, .int .i64)], [], []⟩)], [], []⟩ Tryz.func231 h
def fG.pre (a0 : Sl) (a1 : Int) (w : World) (R : Ending → World → Prop) : Prop :=
 Br (decide (a1 < 0))
 (False)
 (Br (decide (((IntKind.wrap .i64 (a1 - (IntKind.wrap .i64 (((a0.c : Nat) : Int) - ((a0.n : Nat) : Int))))) : Int) > 0))
 ((0 : Int) ≤ ((a0.c : Nat) : Int) ∧ ((a0.c : Nat) : Int) ≤ ((a0.c : Nat) : Int) ∧ ((0 : Int) ≤ (IntKind.wrap .i64 (a1 - (IntKind.wrap .i64 (((a0.c : Nat) : Int) - ((a0.n : Nat) : Int))))) ∧ IntKind.wrap .i64 (IntKind.wrap .i64 (a1 - (IntKind.wrap .i64 (((a0.c : Nat) : Int) - ((a0.n : Nat) : Int))))) = (IntKind.wrap .i64 (a1 - (IntKind.wrap .i64 (((a0.c : Nat) : Int) - ((a0.n : Nat) : Int))))) ∧ ((IntKind.wrap .i64 (a1 - (IntKind.wrap .i64 (((a0.c : Nat) : Int) - ((a0.n : Nat) : Int))))) : Int) * 1 ≤ 281474976710656) ∧ az 1 1 w ⟨(ai a0.a (0) (a0.c) 1), ((((a0.c : Nat) : Int) : Int).toNat - 0), (a0.c - 0)⟩ ((IntKind.wrap .i64 (a1 - (IntKind.wrap .i64 (((a0.c : Nat) : Int) - ((a0.n : Nat) : Int))))) : Int).toNat (aE [.int .u8 0] ((IntKind.wrap .i64 (a1 - (IntKind.wrap .i64 (((a0.c : Nat) : Int) - ((a0.n : Nat) : Int))))) : Int).toNat) ∧ ∀ (s0 : Sl) (w1 : World), av 5 1 w ⟨(ai a0.a (0) (a0.c) 1), ((((a0.c : Nat) : Int) : Int).toNat - 0), (a0.c - 0)⟩ ((IntKind.wrap .i64 (a1 - (IntKind.wrap .i64 (((a0.c : Nat) : Int) - ((a0.n : Nat) : Int))))) : Int).toNat (aE [.int .u8 0] ((IntKind.wrap .i64 (a1 - (IntKind.wrap .i64 (((a0.c : Nat) : Int) - ((a0.n : Nat) : Int))))) : Int).toNat) s0 w1 →
 (0 : Int) ≤ ((a0.n : Nat) : Int) ∧ ((a0.n : Nat) : Int) ≤ ((s0.c : Nat) : Int) ∧ R (.returned (.slice (ai s0.a (0) (s0.c) 1) ((((a0.n : Nat) : Int) : Int).toNat - 0) (s0.c - 0))) w1)
 (R (.returned a0) w))
theorem fG.vc {a0 a1 w} (h : fG.pre a0 a1 w R) : Calls Tryz.prog eA #[a0, a1] w R :=
 cq ⟨[], [], []⟩ Tryz.func246 h
end Go.Proofs.YtalpkjfpmdpbiaaGreatDoor
