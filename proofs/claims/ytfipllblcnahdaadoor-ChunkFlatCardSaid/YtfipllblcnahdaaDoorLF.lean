import Derived.Test.YtfipllblcnahdaaDoorG
set_option linter.all false
namespace Go.Proofs.YtfipllblcnahdaaDoor
open Go Go.Vc Go.RowKit Go.Proofs
set_option maxRecDepth 100000
set_option maxHeartbeats 8000000
set_option linter.unusedVariables false
abbrev n_law11_ChunkFlat : FuncId := 8
/- breccia/breccialaw11.ChunkFlat  -/
def law11_ChunkFlat.pre (a0 : Int) (a1 : Int) (a2 : Int) (a3 : Int) (w : World) (R : Ending → World → Prop) : Prop :=
 Calls Tryd.prog 10 #[.int .i64 a0, .agg #[.int .i64 0, .int .i64 0]] w (fun e w0 => ∃ (p1 : Option Addr), e = .returned (.pointer p1) ∧ 
 Br (p1).isNone
 (R (.returned (.bool false)) w0)
 (Calls Tryd.prog 12 #[.int .i64 a1] w0 (fun e w2 => ∃ (x3 : Int), e = .returned (.int .i64 x3) ∧ 
 Calls Tryd.prog 12 #[.int .i64 a2] w2 (fun e w4 => ∃ (x5 : Int), e = .returned (.int .i64 x5) ∧ 
 Calls Tryd.prog 30 #[.pointer p1, .agg #[.int .i64 0, .int .i64 0, .int .i64 0], .agg #[.int .i64 15, .int .i64 31, .int .i64 15], .int .i64 x3] w4 (fun e w6 => ∃ (x7 : Int) (x8 : Int), e = .returned (.tuple #[.int .i64 x7, .int .i64 x8]) ∧ 
 Br ((x7 : Int) != 8192)
 (R (.returned (.bool false)) w6)
 (Br ((x8 : Int) != 0)
 (R (.returned (.bool false)) w6)
 (Calls Tryd.prog 22 #[.pointer p1] w6 (fun e w9 => ∃ (s10 : Sl), e = .returned (.slice s10.a s10.n s10.c) ∧ 
 Br ((((s10.n : Nat) : Int) : Int) != 1)
 (R (.returned (.bool false)) w9)
 (Calls Tryd.prog 11 #[.int .i64 a3, .int .i64 8192] w9 (fun e w11 => ∃ (x12 : Int), e = .returned (.int .i64 x12) ∧ 
 ∀ w13 : World, w13 = w11.alloc (.cells #[.int .i64 0, .int .i64 0, .int .i64 0] 23) →
 ∀ w14 : World, w14 = w13.setRow w11.heap.size #[.int .i64 (Int.tmod x12 16), .int .i64 (IntKind.wrap .i64 (Int.tdiv x12 256)), .int .i64 (Int.tmod (IntKind.wrap .i64 (Int.tdiv x12 16)) 16)] →
 Calls Tryd.prog 13 #[.pointer p1, .agg #[.int .i64 (Int.tmod x12 16), .int .i64 (IntKind.wrap .i64 (Int.tdiv x12 256)), .int .i64 (Int.tmod (IntKind.wrap .i64 (Int.tdiv x12 16)) 16)], .int .i64 x5] w14 (fun e w15 => ∃ (x16 : Int), e = .returned (.int .i64 x16) ∧ w15.heap[w11.heap.size]? = w14.heap[w11.heap.size]? ∧ 
 Br ((x16 : Int) != 0)
 (R (.returned (.bool false)) w15)
 (Calls Tryd.prog 19 #[.pointer p1, .agg #[.int .i64 (Int.tmod x12 16), .int .i64 (IntKind.wrap .i64 (Int.tdiv x12 256)), .int .i64 (Int.tmod (IntKind.wrap .i64 (Int.tdiv x12 16)) 16)]] w15 (fun e w17 => ∃ (x18 : Int) (b19 : Bool), e = .returned (.tuple #[.int .i64 x18, .bool b19]) ∧ w17.heap[w11.heap.size]? = w15.heap[w11.heap.size]? ∧ 
 Br ((x12 : Int) == 0)
 (Br ((x3 : Int) == x5)
 (Br ((x18 : Int) == x5)
 (Br b19
 (Calls Tryd.prog 22 #[.pointer p1] w17 (fun e w20 => ∃ (s21 : Sl), e = .returned (.slice s21.a s21.n s21.c) ∧ w20.heap[w11.heap.size]? = w17.heap[w11.heap.size]? ∧ 
 Br ((((s21.n : Nat) : Int) : Int) == 1)
 (Calls Tryd.prog 15 #[] w20 (fun e w22 => ∃ (b23 : Bool), e = .returned (.bool b23) ∧ w22.heap[w11.heap.size]? = w20.heap[w11.heap.size]? ∧ 
 R (.returned (.bool b23)) w22))
 (R (.returned (.bool false)) w20)))
 (R (.returned (.bool false)) w17))
 (R (.returned (.bool false)) w17))
 (Br ((x18 : Int) == x5)
 (Br b19
 (Calls Tryd.prog 22 #[.pointer p1] w17 (fun e w24 => ∃ (s25 : Sl), e = .returned (.slice s25.a s25.n s25.c) ∧ w24.heap[w11.heap.size]? = w17.heap[w11.heap.size]? ∧ 
 Br ((((s25.n : Nat) : Int) : Int) == 2)
 (Calls Tryd.prog 15 #[] w24 (fun e w26 => ∃ (b27 : Bool), e = .returned (.bool b27) ∧ w26.heap[w11.heap.size]? = w24.heap[w11.heap.size]? ∧ 
 R (.returned (.bool b27)) w26))
 (R (.returned (.bool false)) w24)))
 (R (.returned (.bool false)) w17))
 (R (.returned (.bool false)) w17)))
 (Br ((x12 : Int) == 8191)
 (Br ((x3 : Int) == x5)
 (Br ((x18 : Int) == x5)
 (Br b19
 (Calls Tryd.prog 22 #[.pointer p1] w17 (fun e w28 => ∃ (s29 : Sl), e = .returned (.slice s29.a s29.n s29.c) ∧ w28.heap[w11.heap.size]? = w17.heap[w11.heap.size]? ∧ 
 Br ((((s29.n : Nat) : Int) : Int) == 1)
 (Calls Tryd.prog 15 #[] w28 (fun e w30 => ∃ (b31 : Bool), e = .returned (.bool b31) ∧ w30.heap[w11.heap.size]? = w28.heap[w11.heap.size]? ∧ 
 R (.returned (.bool b31)) w30))
 (R (.returned (.bool false)) w28)))
 (R (.returned (.bool false)) w17))
 (R (.returned (.bool false)) w17))
 (Br ((x18 : Int) == x5)
 (Br b19
 (Calls Tryd.prog 22 #[.pointer p1] w17 (fun e w32 => ∃ (s33 : Sl), e = .returned (.slice s33.a s33.n s33.c) ∧ w32.heap[w11.heap.size]? = w17.heap[w11.heap.size]? ∧ 
 Br ((((s33.n : Nat) : Int) : Int) == 2)
 (Calls Tryd.prog 15 #[] w32 (fun e w34 => ∃ (b35 : Bool), e = .returned (.bool b35) ∧ w34.heap[w11.heap.size]? = w32.heap[w11.heap.size]? ∧ 
 R (.returned (.bool b35)) w34))
 (R (.returned (.bool false)) w32)))
 (R (.returned (.bool false)) w17))
 (R (.returned (.bool false)) w17)))
 (Br ((x3 : Int) == x5)
 (Br ((x18 : Int) == x5)
 (Br b19
 (Calls Tryd.prog 22 #[.pointer p1] w17 (fun e w36 => ∃ (s37 : Sl), e = .returned (.slice s37.a s37.n s37.c) ∧ w36.heap[w11.heap.size]? = w17.heap[w11.heap.size]? ∧ 
 Br ((((s37.n : Nat) : Int) : Int) == 1)
 (Calls Tryd.prog 15 #[] w36 (fun e w38 => ∃ (b39 : Bool), e = .returned (.bool b39) ∧ w38.heap[w11.heap.size]? = w36.heap[w11.heap.size]? ∧ 
 R (.returned (.bool b39)) w38))
 (R (.returned (.bool false)) w36)))
 (R (.returned (.bool false)) w17))
 (R (.returned (.bool false)) w17))
 (Br ((x18 : Int) == x5)
 (Br b19
 (Calls Tryd.prog 22 #[.pointer p1] w17 (fun e w40 => ∃ (s41 : Sl), e = .returned (.slice s41.a s41.n s41.c) ∧ w40.heap[w11.heap.size]? = w17.heap[w11.heap.size]? ∧ 
 Br ((((s41.n : Nat) : Int) : Int) == 3)
 (Calls Tryd.prog 15 #[] w40 (fun e w42 => ∃ (b43 : Bool), e = .returned (.bool b43) ∧ w42.heap[w11.heap.size]? = w40.heap[w11.heap.size]? ∧ 
 R (.returned (.bool b43)) w42))
 (R (.returned (.bool false)) w40)))
 (R (.returned (.bool false)) w17))
 (R (.returned (.bool false)) w17)))))))))))))))))
theorem law11_ChunkFlat.vc {a0 a1 a2 a3 w} {R : Ending → World → Prop} (h : law11_ChunkFlat.pre a0 a1 a2 a3 w R) : Calls Tryd.prog n_law11_ChunkFlat #[.int .i64 a0, .int .i64 a1, .int .i64 a2, .int .i64 a3] w R :=
  calls_of_eq (an := ⟨[], [], []⟩) (args := [.int .i64 a0, .int .i64 a1, .int .i64 a2, .int .i64 a3]) Tryd.noNG Tryd.mixed Tryd.func8 h (by kernel_rfl)


end Go.Proofs.YtfipllblcnahdaaDoor
