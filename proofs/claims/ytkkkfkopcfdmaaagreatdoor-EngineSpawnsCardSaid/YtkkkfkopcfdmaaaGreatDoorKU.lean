import Derived.Test.YtkkkfkopcfdmaaaGreatDoorKT
import Derived.Test.YtkkkfkopcfdmaaaGreatDoorP
set_option linter.all false
namespace Go.Proofs.YtkkkfkopcfdmaaaGreatDoor
open Go Go.Vc Go.RowKit Go.Proofs Go.Chk Go.Runs Go.Code
theorem cellsB_nil (seed : Int) (p : Po) : cellsB seed p [] = made seed p := rfl
end Go.Proofs.YtkkkfkopcfdmaaaGreatDoor
namespace Go.Proofs.YtkkkfkopcfdmaaaGreatDoor
open Go Go.Vc Go.RowKit Go.Proofs Go.Chk Go.Runs Go.Code
section
variable {w0 w w' : World} {t : Nat} {seed limit : Int} {T : Tb}
end
end Go.Proofs.YtkkkfkopcfdmaaaGreatDoor
namespace Go.Proofs.YtkkkfkopcfdmaaaGreatDoor
open Go Go.Vc Go.RowKit Go.Proofs Go.Chk Go.Runs Go.Code
theorem nnP {p : Option Addr} {K : Prop} (hp : p.isSome = true) (h : K) : AndL (nnC p) K := AndL_iff.2 ⟨nnC_iff.2 hp, h⟩
end Go.Proofs.YtkkkfkopcfdmaaaGreatDoor
namespace Go.Proofs.YtkkkfkopcfdmaaaGreatDoor
open Go Go.Vc Go.RowKit Go.Proofs Go.Chk Go.Runs Go.Code
end Go.Proofs.YtkkkfkopcfdmaaaGreatDoor
namespace Go.Proofs.YtkkkfkopcfdmaaaGreatDoor
open Go Go.Vc Go.RowKit Go.Proofs Go.Chk Go.Runs Go.Code
theorem tfHere_spec {F : Nat → Prop} {w : World} {t : Nat} {seed cap : Int} {T : Tb} (h : TF F w t seed cap T) : Calls Tryz.prog n_table_Table_Here #[.pointer (some ⟨t, 0, none⟩)] w fun e w' => ∃ s' : Sl, e = .returned (.slice s'.a s'.n s'.c) ∧ OwnK w.heap.size tPo 2 w' s' (T.2.map fun e => [.int .i64 e.1.1, .int .i64 e.1.2]) ∧ Ext w w' := by
 obtain ⟨st, d, r, sl, its, g1, e, rfl⟩ := h
 rw [← e]
 exact Here_spec g1
end Go.Proofs.YtkkkfkopcfdmaaaGreatDoor
