import Derived.Test.YtalpkjfpmdpbiaaGreatDoorGR
set_option linter.all false
namespace Go.Proofs.YtalpkjfpmdpbiaaGreatDoor
open Go Go.Vc Go.RowKit Go.Proofs
set_option maxRecDepth 100000
set_option maxHeartbeats 8000000
variable {R:Ending->World->Prop}
set_option linter.unusedVariables false
abbrev te:FuncId:=36
def sy.pre (a0 a1 a2 : Int) (w : World) (R : Ending → World → Prop) : Prop :=
 ∀ w0 : World, w0 = w.alloc (.cells #[(0:Int), (0:Int), (0:Int), (0:Int), (0:Int), .slice none 0 0, .slice none 0 0, .slice none 0 0, .slice none 0 0] 33) →
 Calls Tryz.prog 68 #[a0, a1, a2] w0 (fun e w1 => ∃ (x2 x3 x4 x5 x6 : Int) (s7 s8 s9 : Sl), e = .returned (.agg #[x2, x3, x4, x5, x6, s7, s8, s9]) ∧ Kp w w0 w1 ∧
 ∀ w10 : World, w10 = w1.setRow w #[x2, x3, x4, x5, x6, s7, s8, s9, .slice none 0 0] →
 R (.returned (.agg #[x2, x3, x4, x5, x6, s7, s8, s9, .slice none 0 0])) w10)
theorem sy.vc {a0 a1 a2 w} (h : sy.pre a0 a1 a2 w R) : Calls Tryz.prog te #[a0, a1, a2] w R :=
 cq ⟨[], [], []⟩ Tryz.func36 h
end Go.Proofs.YtalpkjfpmdpbiaaGreatDoor
