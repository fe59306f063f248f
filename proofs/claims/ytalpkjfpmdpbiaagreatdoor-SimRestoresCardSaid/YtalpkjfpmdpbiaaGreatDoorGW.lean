import Derived.Test.YtalpkjfpmdpbiaaGreatDoorGR
set_option linter.all false
namespace Go.Proofs.YtalpkjfpmdpbiaaGreatDoor
open Go Go.Vc Go.RowKit Go.Proofs
set_option maxRecDepth 100000
set_option maxHeartbeats 8000000
variable{R:Ending->World->Prop}
set_option linter.unusedVariables false
abbrev vg:FuncId:=36
abbrev uT:FuncId:=54
def uG.pre (a0 a1 a2 : Int) (w : World) (R : Ending → World → Prop) : Prop :=
 ∀ w0 : World, w0 = w.alloc (.cells #[(0:Int), (0:Int), (0:Int), (0:Int), (0:Int), .slice none 0 0, .slice none 0 0, .slice none 0 0, .slice none 0 0] 33) →
 Calls Tryz.prog 68 #[a0, a1, a2] w0 (fun e w1 => ∃ (x2 x3 x4 x5 x6 : Int) (s7 s8 s9 : Sl), e = .returned (.agg #[x2, x3, x4, x5, x6, s7, s8, s9]) ∧ Kp w w0 w1 ∧
 ∀ w10 : World, w10 = w1.setRow w #[x2, x3, x4, x5, x6, s7, s8, s9, .slice none 0 0] →
 R (.returned (.agg #[x2, x3, x4, x5, x6, s7, s8, s9, .slice none 0 0])) w10)
theorem uG.vc {a0 a1 a2 w} (h : uG.pre a0 a1 a2 w R) : Calls Tryz.prog vg #[a0, a1, a2] w R :=
 cq ⟨[], [], []⟩ Tryz.func36 h
def tA.pre (a0_0 a0_1 a0_2 a0_3 a0_4 : Int) (a0_5 a0_6 a0_7 a0_8 : Sl) (a1_0 a1_1 a1_2 a2 : Int) (w : World) (R : Ending → World → Prop) : Prop :=
 ∀ w0 : World, w0 = w.alloc (.cells #[a0_0, a0_1, a0_2, a0_3, a0_4, a0_5, a0_6, a0_7, a0_8] 33) →
 ∀ w1 : World, w1 = w0.alloc (.cells #[a1_0, a1_1, a1_2] 23) →
 ∀ w2 : World, w2 = w1.alloc (.cells #[(0:Int), (0:Int), (0:Int), (0:Int), (0:Int), .slice none 0 0, .slice none 0 0, .slice none 0 0, .slice none 0 0] 33) →
 Calls Tryz.prog 22 #[.agg #[a0_0, a0_1, a0_2, a0_3, a0_4, a0_5, a0_6, a0_7], .agg #[a1_0, a1_1, a1_2]] w2 (fun e w3 => ∃ (x4 : Int), e = .returned x4 ∧ Kp w w2 w3 ∧ Kp w0 w2 w3 ∧ Kp w1 w2 w3 ∧
 Calls Tryz.prog 99 #[.agg #[a0_0, a0_1, a0_2, a0_3, a0_4, a0_5, a0_6, a0_7], .agg #[a1_0, a1_1, a1_2], a2] w3 (fun e w5 => ∃ (x6 x7 x8 x9 x10 : Int) (s11 s12 s13 : Sl) (x14 : Int), e = .returned (.tuple #[.agg #[x6, x7, x8, x9, x10, s11, s12, s13], x14]) ∧ Kp w w3 w5 ∧ Kp w0 w3 w5 ∧ Kp w1 w3 w5 ∧
 ∀ w15 : World, w15 = w5.alloc (.cells #[(0:Int), (0:Int), (0:Int), (0:Int), (0:Int), .slice none 0 0, .slice none 0 0, .slice none 0 0] 30) →
 ∀ w16 : World, w16 = w15.setRow w5 #[x6, x7, x8, x9, x10, s11, s12, s13] →
 ∀ w17 : World, w17 = w16.setRow w #[x6, x7, x8, x9, x10, s11, s12, s13, a0_8] →
 Br (x14 == 0)
 (Br (x4 != a2)
 (∃ l18 : List Value, Rd w17 a0_8.a l18 ∧ au 32 4 w17 ⟨none, 0, 0⟩ a0_8.n l18 ∧ ∀ (s19 : Sl) (w20 : World), aq 71 4 w17 ⟨none, 0, 0⟩ a0_8.n l18 s19 w20 → Kp w w17 w20 ∧ Kp w0 w17 w20 ∧ Kp w1 w17 w20 ∧ Kp w5 w17 w20 ∧
 ∀ w21 : World, w21 = w20.alloc (.cells #[a1_0, a1_1, a1_2, a2] 71) →
 au 32 4 w21 s19 1 [a1_0, a1_1, a1_2, a2] ∧ ∀ (s22 : Sl) (w23 : World), aq 71 4 w21 s19 1 [a1_0, a1_1, a1_2, a2] s22 w23 → Kp w w21 w23 ∧ Kp w0 w21 w23 ∧ Kp w1 w21 w23 ∧ Kp w5 w21 w23 ∧ Kp w20 w21 w23 ∧
 ∀ w24 : World, w24 = w23.setRow w #[x6, x7, x8, x9, x10, s11, s12, s13, s22] →
 ∀ w25 : World, w25 = w24.setRow w1 #[x6, x7, x8, x9, x10, s11, s12, s13, s22] →
 R (.returned (.tuple #[.agg #[x6, x7, x8, x9, x10, s11, s12, s13, s22], x14])) w25)
 (∀ w26 : World, w26 = w17.setRow w1 #[x6, x7, x8, x9, x10, s11, s12, s13, a0_8] →
 R (.returned (.tuple #[.agg #[x6, x7, x8, x9, x10, s11, s12, s13, a0_8], x14])) w26))
 (∀ w27 : World, w27 = w17.setRow w1 #[x6, x7, x8, x9, x10, s11, s12, s13, a0_8] →
 R (.returned (.tuple #[.agg #[x6, x7, x8, x9, x10, s11, s12, s13, a0_8], x14])) w27)))
theorem tA.vc {a0_0 a0_1 a0_2 a0_3 a0_4 a0_5 a0_6 a0_7 a0_8 a1_0 a1_1 a1_2 a2 w} (h : tA.pre a0_0 a0_1 a0_2 a0_3 a0_4 a0_5 a0_6 a0_7 a0_8 a1_0 a1_1 a1_2 a2 w R) : Calls Tryz.prog uT #[.agg #[a0_0, a0_1, a0_2, a0_3, a0_4, a0_5, a0_6, a0_7, a0_8], .agg #[a1_0, a1_1, a1_2], a2] w R :=
 cq ⟨[], [], []⟩ Tryz.func54 h
end Go.Proofs.YtalpkjfpmdpbiaaGreatDoor
