import Derived.Test.YtalpkjfpmdpbiaaGreatDoorGR
set_option linter.all false
namespace Go.Proofs.YtalpkjfpmdpbiaaGreatDoor
open Go Go.Vc Go.RowKit Go.Proofs
set_option maxRecDepth 100000
set_option maxHeartbeats 8000000
set_option linter.unusedVariables false
abbrev n_ref13_New : FuncId := 36
def ref13_New.pre (a0 : Int) (a1 : Int) (a2 : Int) (w : World) (R : Ending → World → Prop) : Prop :=
 ∀ w0 : World, w0 = w.alloc (.cells #[.int .i64 0, .int .i64 0, .int .i64 0, .int .i64 0, .int .i64 0, .slice none 0 0, .slice none 0 0, .slice none 0 0, .slice none 0 0] 33) →
 Calls Tryz.prog 68 #[.int .i64 a0, .int .i64 a1, .int .i64 a2] w0 (fun e w1 => ∃ (x2 : Int) (x3 : Int) (x4 : Int) (x5 : Int) (x6 : Int) (s7 : Sl) (s8 : Sl) (s9 : Sl), e = .returned (.agg #[.int .i64 x2, .int .i64 x3, .int .i64 x4, .int .i64 x5, .int .i64 x6, .slice s7.a s7.n s7.c, .slice s8.a s8.n s8.c, .slice s9.a s9.n s9.c]) ∧ w1.heap[w.heap.size]? = w0.heap[w.heap.size]? ∧
 ∀ w10 : World, w10 = w1.setRow w.heap.size #[.int .i64 x2, .int .i64 x3, .int .i64 x4, .int .i64 x5, .int .i64 x6, .slice s7.a s7.n s7.c, .slice s8.a s8.n s8.c, .slice s9.a s9.n s9.c, .slice none 0 0] →
 R (.returned (.agg #[.int .i64 x2, .int .i64 x3, .int .i64 x4, .int .i64 x5, .int .i64 x6, .slice s7.a s7.n s7.c, .slice s8.a s8.n s8.c, .slice s9.a s9.n s9.c, .slice none 0 0])) w10)
theorem ref13_New.vc {a0 a1 a2 w} {R : Ending → World → Prop} (h : ref13_New.pre a0 a1 a2 w R) : Calls Tryz.prog n_ref13_New #[.int .i64 a0, .int .i64 a1, .int .i64 a2] w R :=
 calls_of_eq (an := ⟨[], [], []⟩) (args := [.int .i64 a0, .int .i64 a1, .int .i64 a2]) Tryz.noNG Tryz.mixed Tryz.func36 h (by kernel_rfl)
end Go.Proofs.YtalpkjfpmdpbiaaGreatDoor
