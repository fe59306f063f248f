import Derived.Test.YtkkkfkopcfdmaaaGreatDoorKT
import Derived.Test.YtkkkfkopcfdmaaaGreatDoorGF
import Derived.Test.YtkkkfkopcfdmaaaGreatDoorP
import Derived.Test.YtkkkfkopcfdmaaaGreatDoorWA
set_option linter.all false
namespace Go.Proofs.YtkkkfkopcfdmaaaGreatDoor
open Go Go.Vc Go.RowKit Go.Proofs Go.Chk Go.Runs Go.Code Go.Flw
abbrev clv (c : Ce) : List Value := [.int .i64 c.1, .int .i64 c.2.1, .int .i64 c.2.2]
theorem putCells_all {cs vs : List Value} (h : vs.length = cs.length) : putCells cs 0 vs = vs := by
 rw [putCells_eq _ _ _ (by omega)]
 simp [← h]
end Go.Proofs.YtkkkfkopcfdmaaaGreatDoor
namespace Go.Proofs.YtkkkfkopcfdmaaaGreatDoor
open Go Go.Vc Go.RowKit Go.Proofs Go.Chk Go.Runs Go.Code Go.Flw
def Tl (v : Value) (V : Ce → Int) (w : World) : Prop := ∃ D : Nat → Prop, (∀ i, D i → i < w.heap.size) ∧ ∀ w', (∀ i, D i → w'.heap[i]? = w.heap[i]?) → ∀ c, okC c → callV Tryz.prog v [cev c] w' fun e w'' => e = .returned (.int .i64 (V c)) ∧ Ext w' w''
theorem Tl.ext {v : Value} {V : Ce → Int} {w w' : World} (h : Tl v V w) (x : Ext w w') : Tl v V w' := by
 obtain ⟨D, h1, h2⟩ := h
 exact ⟨D, fun i hi => Nat.lt_of_lt_of_le (h1 i hi) x.size, fun w'' hk => h2 w'' fun i hi => (hk i hi).trans (x.heap (h1 i hi))⟩
theorem callV_mono' {v : Value} {l : List Value} {w : World} {R R' : Ending → World → Prop} (h : callV Tryz.prog v l w R) (k : ∀ e w', R e w' → R' e w') : callV Tryz.prog v l w R' := callV_mono h k
end Go.Proofs.YtkkkfkopcfdmaaaGreatDoor
