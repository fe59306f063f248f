import Derived.Test.YtkkkfkopcfdmaaaGreatDoorGS
set_option linter.all false
namespace Go.Proofs.YtkkkfkopcfdmaaaGreatDoor
open Go Go.Vc Go.RowKit Go.Proofs
set_option maxRecDepth 100000
set_option maxHeartbeats 8000000
set_option linter.unusedVariables false
abbrev n_queue_New : FuncId := 97
def queue_New.pre (a0 : Int) (w : World) (R : Ending → World → Prop) : Prop :=
 ∀ w0 : World, w0 = w.alloc (.map #[] 0) →
 ∀ w1 : World, w1 = w0.alloc (.cells #[.int .i64 (if 4096 < (if 1 > a0 then 1 else a0) then 4096 else (if 1 > a0 then 1 else a0)), .int .i64 0, .slice none 0 0, .map (some w.heap.size)] 226) →
 R (.returned (.pointer (some ⟨w0.heap.size, 0, none⟩))) w1
theorem queue_New.vc {a0 w} {R : Ending → World → Prop} (h : queue_New.pre a0 w R) : Calls Tryz.prog n_queue_New #[.int .i64 a0] w R :=
 calls_of_eq (an := ⟨[], [], []⟩) (args := [.int .i64 a0]) Tryz.noNG Tryz.mixed Tryz.func97 h (by kernel_rfl)
end Go.Proofs.YtkkkfkopcfdmaaaGreatDoor
