import Derived.Test.YtalpkjfpmdpbiaaGreatDoorGC
set_option linter.all false
namespace Go.Proofs.YtalpkjfpmdpbiaaGreatDoor
open Go Go.Vc Go.RowKit Go.Proofs
set_option maxRecDepth 100000
set_option maxHeartbeats 8000000
variable {R:Ending->World->Prop}
set_option linter.unusedVariables false
abbrev mj:FuncId:=3
def kq.pre (a0 a1_0 a1_1 a1_2 : Int) (w : World) (R : Ending → World → Prop) : Prop :=
 ∀ w0 : World, w0 = w.alloc (.cells #[a1_0, a1_1, a1_2] 23) →
 Calls Tryz.prog 9 #[a0, (64:Int), .slice none 0 0] w0 (fun e w1 => ∃ (p2 : Option Addr) (x3 x4 x5 x6 x7 : Int) (s8 s9 s10 s11 : Sl) (x12 x13 : Int) (s14 : Sl) (x15 x16 : Int) (s17 s18 : Sl), e = .returned (.tuple #[.pointer p2, .agg #[x3, x4, x5, x6, x7, s8, s9, s10, s11, x12, x13, s14, x15, x16, s17, s18]]) ∧ Kp w w0 w1 ∧
 ∀ w19 : World, w19 = w1.alloc (.cells #[(0:Int), (0:Int), (0:Int), (0:Int), (0:Int), .slice none 0 0, .slice none 0 0, .slice none 0 0, .slice none 0 0, (0:Int), (0:Int), .slice none 0 0, (0:Int), (0:Int), .slice none 0 0, .slice none 0 0] 39) →
 ∀ w20 : World, w20 = w19.setRow w1 #[x3, x4, x5, x6, x7, s8, s9, s10, s11, x12, x13, s14, x15, x16, s17, s18] →
 Br (p2).isNone
 (R (.returned (.bool false)) w20)
 (Calls Tryz.prog 10 #[.pointer p2] w20 (fun e w21 => ∃ (p22 : Option Addr), e = .returned (.pointer p22) ∧ Kp w w20 w21 ∧ Kp w1 w20 w21 ∧
 Br (p22).isNone
 (R (.returned (.bool false)) w21)
 (Calls Tryz.prog 11 #[.pointer p22] w21 (fun e w23 => ∃ (v24 : Value), e = .returned v24 ∧ Kp w w21 w23 ∧ Kp w1 w21 w23 ∧
 aV (Jh v24) (Br (As v24)
 (R (.returned (.bool false)) w23)
 (Calls Tryz.prog 12 #[.agg #[a1_0, a1_1, a1_2]] w23 (fun e w25 => ∃ (x26 x27 x28 : Int), e = .returned (.agg #[x26, x27, x28]) ∧ Kp w w23 w25 ∧ Kp w1 w23 w25 ∧
 ∀ w29 : World, w29 = w25.alloc (.cells #[(0:Int), (0:Int), (0:Int)] 23) →
 ∀ w30 : World, w30 = w29.setRow w25 #[x26, x27, x28] →
 ∃ J31 : Int → World → Prop,
 (∃ I32 : Nat → Int → World → Prop,
 (∃ n33, a6 [a1_0, a1_1, a1_2] ∧ a6 [x3, x4, x5, x6, x7, s8, s9, s10, s11, x12, x13, s14, x15, x16, s17, s18] ∧ a6 [x26, x27, x28] ∧ I32 n33 x27 w30) ∧
 ∀ (n33 : Nat) (us34 : Nat → Value) (x35 : Int) (w36 : World), I32 n33 x35 w36 →
 Br (decide (x35 > 0))
 (a8 Tryz.prog v24 [.agg #[x26, (IntKind.wrap .i64 (x35 - 1)), x28]] w36 (fun e w38 => ∃ (x39 : Int), e = .returned x39 ∧ Kp w w36 w38 ∧ Kp w1 w36 w38 ∧ Kp w25 w36 w38 ∧
 Br (x39 == 0)
 (∃ n37, n37 < n33 ∧ a6 [a1_0, a1_1, a1_2] ∧ a6 [x3, x4, x5, x6, x7, s8, s9, s10, s11, x12, x13, s14, x15, x16, s17, s18] ∧ a6 [x26, x27, x28] ∧ I32 n37 ((IntKind.wrap .i64 (x35 - 1))) w38)
 (a8 Tryz.prog v24 [.agg #[x26, (IntKind.wrap .i64 (x35 - 1)), x28]] w38 (fun e w40 => ∃ (x41 : Int), e = .returned x41 ∧ Kp w w38 w40 ∧ Kp w1 w38 w40 ∧ Kp w25 w38 w40 ∧
 Br (decide (x41 ≥ 8))
 (∃ n37, n37 < n33 ∧ a6 [a1_0, a1_1, a1_2] ∧ a6 [x3, x4, x5, x6, x7, s8, s9, s10, s11, x12, x13, s14, x15, x16, s17, s18] ∧ a6 [x26, x27, x28] ∧ I32 n37 ((IntKind.wrap .i64 (x35 - 1))) w40)
 (a6 [a1_0, a1_1, a1_2] ∧ a6 [x3, x4, x5, x6, x7, s8, s9, s10, s11, x12, x13, s14, x15, x16, s17, s18] ∧ a6 [x26, x27, x28] ∧ J31 x35 w40)))))
 (a6 [a1_0, a1_1, a1_2] ∧ a6 [x3, x4, x5, x6, x7, s8, s9, s10, s11, x12, x13, s14, x15, x16, s17, s18] ∧ a6 [x26, x27, x28] ∧ J31 x35 w36)) ∧
 ∀ us42 : Nat → Value, ∀ (x43 : Int) (w44 : World), J31 x43 w44 →
 ∃ J45 : World → Prop,
 (Br (decide (x43 < x27))
 (a8 Tryz.prog v24 [.agg #[x26, x27, x28]] w44 (fun e w46 => ∃ (x47 : Int), e = .returned x47 ∧ Kp w w44 w46 ∧ Kp w1 w44 w46 ∧ Kp w25 w44 w46 ∧
 Br (x47 != 0)
 (Calls Tryz.prog 13 #[] w46 (fun e w48 => ∃ (b49 : Bool), e = .returned (.bool b49) ∧ Kp w w46 w48 ∧ Kp w1 w46 w48 ∧ Kp w25 w46 w48 ∧
 R (.returned (.bool b49)) w48))
 (a6 [a1_0, a1_1, a1_2] ∧ a6 [x3, x4, x5, x6, x7, s8, s9, s10, s11, x12, x13, s14, x15, x16, s17, s18] ∧ a6 [x26, x27, x28] ∧ J45  w46)))
 (a6 [a1_0, a1_1, a1_2] ∧ a6 [x3, x4, x5, x6, x7, s8, s9, s10, s11, x12, x13, s14, x15, x16, s17, s18] ∧ a6 [x26, x27, x28] ∧ J45  w44)) ∧
 ∀ us50 : Nat → Value, ∀ (w51 : World), J45 w51 →
 Calls Tryz.prog 14 #[.pointer p2, .agg #[x26, x27, x28], (3:Int)] w51 (fun e w52 => ∃ (x53 : Int), e = .returned x53 ∧ Kp w w51 w52 ∧ Kp w1 w51 w52 ∧ Kp w25 w51 w52 ∧
 ∃ I54 : Nat → Int → World → Prop,
 (∃ n55, a6 [a1_0, a1_1, a1_2] ∧ a6 [x3, x4, x5, x6, x7, s8, s9, s10, s11, x12, x13, s14, x15, x16, s17, s18] ∧ a6 [x26, x27, x28] ∧ I54 n55 (0) w52) ∧
 ∀ (n55 : Nat) (us56 : Nat → Value) (x57 : Int) (w58 : World), I54 n55 x57 w58 →
 Br (decide (x57 < (IntKind.wrap .i64 (2 * (IntKind.wrap .i64 (x27 - x43))))))
 (Calls Tryz.prog 15 #[.pointer p2] w58 (fun e w60 => ∃ (x61 : Int), e = .returned x61 ∧ Kp w w58 w60 ∧ Kp w1 w58 w60 ∧ Kp w25 w58 w60 ∧
 ∃ n59, n59 < n55 ∧ a6 [a1_0, a1_1, a1_2] ∧ a6 [x3, x4, x5, x6, x7, s8, s9, s10, s11, x12, x13, s14, x15, x16, s17, s18] ∧ a6 [x26, x27, x28] ∧ I54 n59 ((IntKind.wrap .i64 (x57 + 1))) w60))
 (a8 Tryz.prog v24 [.agg #[x26, x43, x28]] w58 (fun e w62 => ∃ (x63 : Int), e = .returned x63 ∧ Kp w w58 w62 ∧ Kp w1 w58 w62 ∧ Kp w25 w58 w62 ∧
 Calls Tryz.prog 16 #[.pointer p2, (100:Int)] w62 (fun e w64 => ∃ (x65 : Int), e = .returned x65 ∧ Kp w w62 w64 ∧ Kp w1 w62 w64 ∧ Kp w25 w62 w64 ∧
 Br (x63 == 3)
 (a8 Tryz.prog v24 [.agg #[x26, x43, x28]] w64 (fun e w66 => ∃ (x67 : Int), e = .returned x67 ∧ Kp w w64 w66 ∧ Kp w1 w64 w66 ∧ Kp w25 w64 w66 ∧
 Br (x67 == 3)
 (Calls Tryz.prog 13 #[] w66 (fun e w68 => ∃ (b69 : Bool), e = .returned (.bool b69) ∧ Kp w w66 w68 ∧ Kp w1 w66 w68 ∧ Kp w25 w66 w68 ∧
 R (.returned (.bool b69)) w68))
 (R (.returned (.bool false)) w66)))
 (R (.returned (.bool false)) w64)))))))))))))
theorem kq.vc {a0 a1_0 a1_1 a1_2 w} (h : kq.pre a0 a1_0 a1_1 a1_2 w R) : Calls Tryz.prog mj #[a0, .agg #[a1_0, a1_1, a1_2]] w R :=
 cq ⟨[(12, ⟨[(10, .int .i64)], [], []⟩), (18, ⟨[(11, .int .i64)], [], []⟩)], [(16, ⟨[], [], []⟩), (14, ⟨[(10, .int .i64)], [], []⟩)], []⟩ Tryz.func3 h
end Go.Proofs.YtalpkjfpmdpbiaaGreatDoor
