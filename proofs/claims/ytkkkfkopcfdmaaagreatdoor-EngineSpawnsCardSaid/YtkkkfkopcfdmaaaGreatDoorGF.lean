import Derived.Test.YtkkkfkopcfdmaaaGreatDoorGQ
set_option linter.all false
namespace Go.Proofs.YtkkkfkopcfdmaaaGreatDoor
open Go Go.Vc Go.RowKit Go.Proofs
set_option maxRecDepth 100000
set_option maxHeartbeats 8000000
set_option linter.unusedVariables false
abbrev n_sim_New : FuncId := 40
abbrev n_sim_New_1 : FuncId := 98
abbrev n_sim_Sim_World : FuncId := 18
def sim_New.pre (a0 : Addr) (a1 : Int) (w : World) (R : Ending → World → Prop) : Prop :=
 Calls Tryz.prog 97 #[.int .i64 4096] w (fun e w0 => ∃ (p1 : Option Addr), e = .returned (.pointer p1) ∧
 ∀ w2 : World, w2 = w0.alloc (.cells #[.pointer p1, .pointer (some a0), .int .i64 (if 64 < (if 1 > a1 then 1 else a1) then 64 else (if 1 > a1 then 1 else a1)), .int .i64 0, .func (.func 98) #[] #[], .slice none 0 0] 130) →
 R (.returned (.pointer (some ⟨w0.heap.size, 0, none⟩))) w2)
theorem sim_New.vc {a0 a1 w} {R : Ending → World → Prop} (h : sim_New.pre a0 a1 w R) : Calls Tryz.prog n_sim_New #[.pointer (some a0), .int .i64 a1] w R :=
 calls_of_eq (an := ⟨[], [], []⟩) (args := [.pointer (some a0), .int .i64 a1]) Tryz.noNG Tryz.mixed Tryz.func40 h (by kernel_rfl)
def sim_Sim_World.pre (a0 : Addr) (w : World) (R : Ending → World → Prop) : Prop :=
 ∃ (p0 : Option Addr), ld w (padd (some a0) 1) = some (.pointer p0) ∧
 R (.returned (.pointer p0)) w
theorem sim_Sim_World.vc {a0 w} {R : Ending → World → Prop} (h : sim_Sim_World.pre a0 w R) : Calls Tryz.prog n_sim_Sim_World #[.pointer (some a0)] w R :=
 calls_of_eq (an := ⟨[], [], []⟩) (args := [.pointer (some a0)]) Tryz.noNG Tryz.mixed Tryz.func18 h (by kernel_rfl)
end Go.Proofs.YtkkkfkopcfdmaaaGreatDoor
