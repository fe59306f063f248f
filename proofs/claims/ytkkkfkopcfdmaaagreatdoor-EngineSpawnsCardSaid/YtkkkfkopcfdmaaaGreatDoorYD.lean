import Derived.Test.YtkkkfkopcfdmaaaGreatDoorYC
import Derived.Test.YtkkkfkopcfdmaaaGreatDoorYB
set_option linter.all false
namespace Go.Proofs.YtkkkfkopcfdmaaaGreatDoor
open Go Go.Vc Go.RowKit Go.Proofs Go.Chk Go.Runs Go.Code Go.Que Go.Flw
set_option maxRecDepth 100000
section
variable {F F' : Nat → Prop} {w w' : World} {s o t : Nat} {M M' : Sm} {occ : Value}
theorem SF.tl (h : SF F w s o t M occ) : Tl (.func (.func n_table_Table_At) #[.pointer (some ⟨t, 0, none⟩)] #[]) (atE M.T.2) w := by
 obtain ⟨Fw, hW, -, -⟩ := h.world
 exact ⟨Fw, fun i hi => hW.lt hi, fun w' hk c hc => hW.tells hk c hc⟩
theorem q0_ok : QOk ⟨4096, 0, []⟩ := ⟨by decide, by decide, List.Pairwise.nil, List.nodup_nil⟩
theorem simNew_spec {Fw : Nat → Prop} {seed cap : Int} {T : Tb} {ch : List Go.Flw.Cg} (h : WF Fw w o t seed cap T ch) (budget : Int) : Calls Tryz.prog n_sim_New #[.pointer (some ⟨o, 0, none⟩), .int .i64 budget] w fun e w' => ∃ s F, e = .returned (.pointer (some ⟨s, 0, none⟩)) ∧ SF F w' s o t ⟨seed, cap, T, ch, ⟨4096, 0, []⟩, min (max budget 1) 64, 0, []⟩ (.func (.func n_sim_New_1) #[] #[]) ∧ Ext w w' ∧ (∀ i, F i → Fw i ∨ w.heap.size ≤ i) := by
 apply sim_New.vc
 refine (Q.New_spec 4096 w).mono ?_
 rintro e w0 ⟨g, m, rfl, hq, x0, hg, hm⟩
 refine ⟨_, rfl, fun w2 e2 => ?_⟩
 have eb : (if 64 < (if 1 > budget then 1 else budget) then 64 else (if 1 > budget then 1 else budget)) = min (max budget 1) 64 := by
  split <;> split <;> omega
 rw [eb] at e2
 have x2 : Ext w0 w2 := (Ext.rfl' _).of_alloc e2
 have hr : Row w2 w0.heap.size (smC g o ⟨seed, cap, T, ch, ⟨4096, 0, []⟩, min (max budget 1) 64, 0, []⟩ (.func (.func n_sim_New_1) #[] #[]) ⟨none, 0, 0⟩) tSim := by rw [e2]; exact Row.new w0 [_, _, _, _, _, _] _
 refine ⟨w0.heap.size, _, rfl, ⟨g, m, ⟨none, 0, 0⟩, Fw, ⟨none, 0, 0⟩, hr, hq.ext x2, q0_ok, h.ext (x0.tr x2), OwnK.nil, ?_, rfl⟩, x0.tr x2, fun i hi => ?_⟩
 ·rintro i (hi | hi | hi) hf
  ·have := h.lt hf; omega
  ·have := h.lt hf; omega
  ·cases hi
 ·have := x0.size
  rcases hi with hi | (hi | hi | hi) | hi | hi
  ·exact .inr (by omega)
  ·exact .inr (by omega)
  ·exact .inr (by omega)
  ·cases hi
  ·exact .inl hi
  ·cases hi
theorem sWorld_spec (h : SF F w s o t M occ) : Calls Tryz.prog n_sim_Sim_World #[.pointer (some ⟨s, 0, none⟩)] w fun e w' => e = .returned (.pointer (some ⟨o, 0, none⟩)) ∧ w' = w := by
 obtain ⟨g, sd, h1, -⟩ := h.row
 apply sim_Sim_World.vc
 exact ⟨_, h1.at 1 rfl, rfl, rfl⟩
end
end Go.Proofs.YtkkkfkopcfdmaaaGreatDoor
namespace Go.Proofs.YtkkkfkopcfdmaaaGreatDoor
open Go Go.Vc Go.RowKit Go.Proofs Go.Chk Go.Runs Go.Code Go.Que Go.Flw
set_option maxRecDepth 100000
section
variable {F F' : Nat → Prop} {w w' : World} {s o t : Nat} {M M' : Sm} {occ : Value}
end
end Go.Proofs.YtkkkfkopcfdmaaaGreatDoor
namespace Go.Proofs.YtkkkfkopcfdmaaaGreatDoor
open Go Go.Vc Go.RowKit Go.Proofs Go.Chk Go.Runs Go.Code Go.Que Go.Flw
set_option maxRecDepth 100000
section
variable {F F' : Nat → Prop} {w w' : World} {s o t : Nat} {M M' : Sm} {occ : Value} {O : Ce → Bool}
end
end Go.Proofs.YtkkkfkopcfdmaaaGreatDoor
namespace Go.Proofs.YtkkkfkopcfdmaaaGreatDoor
open Go Go.Vc Go.RowKit Go.Proofs Go.Chk Go.Runs Go.Code Go.Que Go.Flw
set_option maxRecDepth 100000
section
variable {F F' : Nat → Prop} {w w' : World} {s o t : Nat} {M M' : Sm} {occ : Value} {O : Ce → Bool}
end
end Go.Proofs.YtkkkfkopcfdmaaaGreatDoor
