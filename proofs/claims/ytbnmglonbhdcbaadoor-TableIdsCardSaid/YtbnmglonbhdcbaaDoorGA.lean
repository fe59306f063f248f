import Derived.Test.YtbnmglonbhdcbaaDoorG
set_option linter.all false
namespace Go.Proofs.YtbnmglonbhdcbaaDoor
open Go Go.Vc Go.RowKit Go.Proofs
set_option maxRecDepth 100000
set_option maxHeartbeats 8000000
set_option linter.unusedVariables false
abbrev n_law12_TableIds : FuncId := 3
/- breccia/breccialaw12.TableIds  -/
def law12_TableIds.pre (a0_0 : Int) (a0_1 : Int) (a1_0 : Int) (a1_1 : Int) (w : World) (R : Ending → World → Prop) : Prop :=
 ∀ w0 : World, w0 = w.alloc (.cells #[.int .i64 a0_0, .int .i64 a0_1] 23) →
 ∀ w1 : World, w1 = w0.alloc (.cells #[.int .i64 a1_0, .int .i64 a1_1] 23) →
 Calls Tryd.prog 6 #[.agg #[.int .i64 a0_0, .int .i64 a0_1]] w1 (fun e w2 => ∃ (x3 : Int) (b4 : Bool), e = .returned (.tuple #[.int .i64 x3, .bool b4]) ∧ w2.heap[w.heap.size]? = w1.heap[w.heap.size]? ∧ w2.heap[w0.heap.size]? = w1.heap[w0.heap.size]? ∧ 
 Calls Tryd.prog 6 #[.agg #[.int .i64 a1_0, .int .i64 a1_1]] w2 (fun e w5 => ∃ (x6 : Int) (b7 : Bool), e = .returned (.tuple #[.int .i64 x6, .bool b7]) ∧ w5.heap[w.heap.size]? = w2.heap[w.heap.size]? ∧ w5.heap[w0.heap.size]? = w2.heap[w0.heap.size]? ∧ 
 Calls Tryd.prog 7 #[.agg #[.int .i64 a0_0, .int .i64 a0_1]] w5 (fun e w8 => ∃ (x9 : Int), e = .returned (.int .i64 x9) ∧ w8.heap[w.heap.size]? = w5.heap[w.heap.size]? ∧ w8.heap[w0.heap.size]? = w5.heap[w0.heap.size]? ∧ 
 Br ((x3 : Int) != x9)
 (R (.returned (.bool false)) w8)
 (Br (!(b4 == (decide ((x3 : Int) > 0))))
 (R (.returned (.bool false)) w8)
 (Br (decide ((x3 : Int) > 1099511627776))
 (R (.returned (.bool false)) w8)
 (Br b4
 (Br b7
 (Br (!(((x3 : Int) == x6) == (((a0_0 : Int) == a1_0) && ((a0_1 : Int) == a1_1))))
 (R (.returned (.bool false)) w8)
 (Calls Tryd.prog 8 #[.int .i64 0, .int .i64 1, .int .i64 0] w8 (fun e w10 => ∃ (p11 : Option Addr), e = .returned (.pointer p11) ∧ w10.heap[w.heap.size]? = w8.heap[w.heap.size]? ∧ w10.heap[w0.heap.size]? = w8.heap[w0.heap.size]? ∧ 
 Br (p11).isNone
 (R (.returned (.bool false)) w10)
 (Calls Tryd.prog 9 #[.pointer p11, .agg #[.int .i64 a0_0, .int .i64 a0_1]] w10 (fun e w12 => ∃ (x13 : Int), e = .returned (.int .i64 x13) ∧ w12.heap[w.heap.size]? = w10.heap[w.heap.size]? ∧ w12.heap[w0.heap.size]? = w10.heap[w0.heap.size]? ∧ 
 Br (((x13 : Int) == 5) == (!b4))
 (Calls Tryd.prog 10 #[] w12 (fun e w14 => ∃ (b15 : Bool), e = .returned (.bool b15) ∧ w14.heap[w.heap.size]? = w12.heap[w.heap.size]? ∧ w14.heap[w0.heap.size]? = w12.heap[w0.heap.size]? ∧ 
 R (.returned (.bool b15)) w14))
 (R (.returned (.bool false)) w12))))))
 (Calls Tryd.prog 8 #[.int .i64 0, .int .i64 1, .int .i64 0] w8 (fun e w16 => ∃ (p17 : Option Addr), e = .returned (.pointer p17) ∧ w16.heap[w.heap.size]? = w8.heap[w.heap.size]? ∧ w16.heap[w0.heap.size]? = w8.heap[w0.heap.size]? ∧ 
 Br (p17).isNone
 (R (.returned (.bool false)) w16)
 (Calls Tryd.prog 9 #[.pointer p17, .agg #[.int .i64 a0_0, .int .i64 a0_1]] w16 (fun e w18 => ∃ (x19 : Int), e = .returned (.int .i64 x19) ∧ w18.heap[w.heap.size]? = w16.heap[w.heap.size]? ∧ w18.heap[w0.heap.size]? = w16.heap[w0.heap.size]? ∧ 
 Br (((x19 : Int) == 5) == (!b4))
 (Calls Tryd.prog 10 #[] w18 (fun e w20 => ∃ (b21 : Bool), e = .returned (.bool b21) ∧ w20.heap[w.heap.size]? = w18.heap[w.heap.size]? ∧ w20.heap[w0.heap.size]? = w18.heap[w0.heap.size]? ∧ 
 R (.returned (.bool b21)) w20))
 (R (.returned (.bool false)) w18))))))
 (Calls Tryd.prog 8 #[.int .i64 0, .int .i64 1, .int .i64 0] w8 (fun e w22 => ∃ (p23 : Option Addr), e = .returned (.pointer p23) ∧ w22.heap[w.heap.size]? = w8.heap[w.heap.size]? ∧ w22.heap[w0.heap.size]? = w8.heap[w0.heap.size]? ∧ 
 Br (p23).isNone
 (R (.returned (.bool false)) w22)
 (Calls Tryd.prog 9 #[.pointer p23, .agg #[.int .i64 a0_0, .int .i64 a0_1]] w22 (fun e w24 => ∃ (x25 : Int), e = .returned (.int .i64 x25) ∧ w24.heap[w.heap.size]? = w22.heap[w.heap.size]? ∧ w24.heap[w0.heap.size]? = w22.heap[w0.heap.size]? ∧ 
 Br (((x25 : Int) == 5) == (!b4))
 (Calls Tryd.prog 10 #[] w24 (fun e w26 => ∃ (b27 : Bool), e = .returned (.bool b27) ∧ w26.heap[w.heap.size]? = w24.heap[w.heap.size]? ∧ w26.heap[w0.heap.size]? = w24.heap[w0.heap.size]? ∧ 
 R (.returned (.bool b27)) w26))
 (R (.returned (.bool false)) w24)))))))))))
theorem law12_TableIds.vc {a0_0 a0_1 a1_0 a1_1 w} {R : Ending → World → Prop} (h : law12_TableIds.pre a0_0 a0_1 a1_0 a1_1 w R) : Calls Tryd.prog n_law12_TableIds #[.agg #[.int .i64 a0_0, .int .i64 a0_1], .agg #[.int .i64 a1_0, .int .i64 a1_1]] w R :=
  calls_of_eq (an := ⟨[], [], []⟩) (args := [.agg #[.int .i64 a0_0, .int .i64 a0_1], .agg #[.int .i64 a1_0, .int .i64 a1_1]]) Tryd.noNG Tryd.mixed Tryd.func3 h (by kernel_rfl)


end Go.Proofs.YtbnmglonbhdcbaaDoor
