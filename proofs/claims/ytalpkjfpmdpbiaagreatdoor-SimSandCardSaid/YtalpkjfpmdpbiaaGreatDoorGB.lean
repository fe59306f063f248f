import Derived.Test.YtalpkjfpmdpbiaaGreatDoorGF
set_option linter.all false
namespace Go.Proofs.YtalpkjfpmdpbiaaGreatDoor
open Go Go.Vc Go.RowKit Go.Proofs
set_option maxRecDepth 100000
set_option maxHeartbeats 8000000
variable {R:Ending->World->Prop}
set_option linter.unusedVariables false
abbrev mJ:FuncId:=12
abbrev sL:FuncId:=41
abbrev l6:FuncId:=42
def kX.pre (a0_0 a0_1 a0_2 : Int) (w : World) (R : Ending → World → Prop) : Prop :=
 ∀ w0 : World, w0 = w.alloc (.cells #[a0_0, a0_1, a0_2] 23) →
 ∀ w1 : World, w1 = w0.alloc (.cells #[(0:Int), (0:Int), (0:Int)] 23) →
 Calls Tryz.prog 44 #[a0_0, (6:Int)] w1.drew (fun e w2 => ∃ (x3 : Int), e = .returned x3 ∧ Kp w w1.drew w2 ∧ Kp w0 w1.drew w2 ∧
 aj w2 (some ⟨w, 2, none⟩) 0 [a0_2] ∧ aj w2 (some ⟨w, 1, none⟩) 0 [a0_1] ∧ Calls Tryz.prog 44 #[a0_1, (9:Int)] w2 (fun e w4 => ∃ (x5 : Int), e = .returned x5 ∧ Kp w w2 w4 ∧ Kp w0 w2 w4 ∧
 aj w4 (some ⟨w, 2, none⟩) 0 [a0_2] ∧ Calls Tryz.prog 44 #[a0_2, (6:Int)] w4 (fun e w6 => ∃ (x7 : Int), e = .returned x7 ∧ Kp w w4 w6 ∧ Kp w0 w4 w6 ∧
 ∀ w8 : World, w8 = w6.setRow w0 #[(IntKind.wrap .i64 (5 + x3)), (IntKind.wrap .i64 (14 + x5)), (IntKind.wrap .i64 (5 + x7))] →
 R (.returned (.agg #[(IntKind.wrap .i64 (5 + x3)), (IntKind.wrap .i64 (14 + x5)), (IntKind.wrap .i64 (5 + x7))])) w8)))
theorem kX.vc {a0_0 a0_1 a0_2 w} (h : kX.pre a0_0 a0_1 a0_2 w R) : Calls Tryz.prog mJ #[.agg #[a0_0, a0_1, a0_2]] w R :=
 cq ⟨[], [], []⟩ Tryz.func12 h
def q8.pre (a0_0 a0_1 a0_2 a0_3 a0_4 : Int) (a0_5 a0_6 a0_7 a0_8 : Sl) (a1 : Int) (w : World) (R : Ending → World → Prop) : Prop :=
 ∀ w0 : World, w0 = w.alloc (.cells #[a0_0, a0_1, a0_2, a0_3, a0_4, a0_5, a0_6, a0_7, a0_8] 33) →
 ∀ w1 : World, w1 = w0.alloc (.cells #[(0:Int), (0:Int), (0:Int), (0:Int), (0:Int), .slice none 0 0, .slice none 0 0, .slice none 0 0, .slice none 0 0, (0:Int), (0:Int), .slice none 0 0, (0:Int), (0:Int), .slice none 0 0, .slice none 0 0] 39) →
 Calls Tryz.prog 84 #[(4096:Int)] w1.drew (fun e w2 => ∃ (x3 x4 : Int) (s5 : Sl), e = .returned (.agg #[x3, x4, s5]) ∧ Kp w w1.drew w2 ∧ Kp w0 w1.drew w2 ∧
 aj w2 (some ⟨w, 0, none⟩) 0 [a0_0, a0_1, a0_2, a0_3, a0_4, a0_5, a0_6, a0_7, a0_8] ∧ ∀ w6 : World, w6 = w2.setRow w0 #[a0_0, a0_1, a0_2, a0_3, a0_4, a0_5, a0_6, a0_7, a0_8, x3, x4, s5, .int .i64 (if 64 < (if 1 > a1 then 1 else a1) then 64 else (if 1 > a1 then 1 else a1)), (0:Int), .slice none 0 0, .slice none 0 0] →
 R (.returned (.agg #[a0_0, a0_1, a0_2, a0_3, a0_4, a0_5, a0_6, a0_7, a0_8, x3, x4, s5, .int .i64 (if 64 < (if 1 > a1 then 1 else a1) then 64 else (if 1 > a1 then 1 else a1)), (0:Int), .slice none 0 0, .slice none 0 0])) w6)
theorem q8.vc {a0_0 a0_1 a0_2 a0_3 a0_4 a0_5 a0_6 a0_7 a0_8 a1 w} (h : q8.pre a0_0 a0_1 a0_2 a0_3 a0_4 a0_5 a0_6 a0_7 a0_8 a1 w R) : Calls Tryz.prog sL #[.agg #[a0_0, a0_1, a0_2, a0_3, a0_4, a0_5, a0_6, a0_7, a0_8], a1] w R :=
 cq ⟨[], [], []⟩ Tryz.func41 h
def jZ.pre (a0_0 a0_1 a0_2 : Int) (c0 : Addr) (w : World) (R : Ending → World → Prop) : Prop :=
 ∀ w0 : World, w0 = w.alloc (.cells #[a0_0, a0_1, a0_2] 23) →
 ∃ I1 : Nat → Int → World → Prop,
 (∃ n2, a6 [a0_0, a0_1, a0_2] ∧ I1 n2 (0) w0) ∧
 ∀ (n2 : Nat) (us3 : Nat → Value) (x4 : Int) (w5 : World), I1 n2 x4 w5 →
 ∃ (s7 : Sl), ld w5 (some c0) = some (.slice s7.a s7.n s7.c) ∧
 Br (decide (x4 < ((s7.n : Nat) : Int)))
 (∃ (s8 : Sl), ld w5.drew (some c0) = some (.slice s8.a s8.n s8.c) ∧
 cn s8.a x4 s8.n ∧ ∃ (x9 x10 x11 : Int), aj w5.drew (ae s8.a ((x4 : Int).toNat * 3)) 0 [x9, x10, x11] ∧
 Br ((x9 == a0_0) && ((x10 == a0_1) && (x11 == a0_2)))
 (R (.returned (.bool true)) w5.drew)
 (∃ n6, n6 < n2 ∧ a6 [a0_0, a0_1, a0_2] ∧ I1 n6 ((IntKind.wrap .i64 (x4 + 1))) w5.drew))
 (R (.returned (.bool false)) w5)
theorem jZ.vc {a0_0 a0_1 a0_2 c0 w} (h : jZ.pre a0_0 a0_1 a0_2 c0 w R) : Calls Tryz.prog l6 #[.agg #[a0_0, a0_1, a0_2], .pointer (some c0)] w R :=
 cq ⟨[(2, ⟨[(4, .int .i64)], [], []⟩)], [], []⟩ Tryz.func42 h
end Go.Proofs.YtalpkjfpmdpbiaaGreatDoor
