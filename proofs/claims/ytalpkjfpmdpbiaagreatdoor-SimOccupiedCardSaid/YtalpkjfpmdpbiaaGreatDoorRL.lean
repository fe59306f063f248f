import Derived.Test.YtalpkjfpmdpbiaaGreatDoorRF
import Derived.Test.YtalpkjfpmdpbiaaGreatDoorKU
set_option linter.all false
namespace Go.Proofs.YtalpkjfpmdpbiaaGreatDoor
open Go Go.Vc Go.RowKit Go.Proofs Go.Chk Go.Runs Go.Code
def pinsIn (n : Nat) (l : List En) : Prop := ∀ e ∈ l, 0 ≤ e.2.2.2 ∧ e.2.2.2 ≤ n
structure Iv (m n : Nat) (T : Tb) : Prop where
 m : mD T.1 ≤ m
 p : pinsIn n T.2
 nod : nodL T.2
abbrev Nf (N F : Nat → Prop) : Nat → Prop := fun i => ¬ F i ∧ N i
section
variable {N F F' : Nat → Prop} {w w' v v' : World} {s1 s2 s3 : Sl} {T T' : Tb} {seed cap : Int} {t a b : Nat}
theorem TF.okt (h : TF F w t seed cap T) {m n : Nat} (hi : Iv m n T) (hm : m ≤ 400000) : Okt T := by
 have h1 := h.len
 exact ⟨h.ok, mD_few (by have := hi.m; omega), h.good, by omega⟩
end
end Go.Proofs.YtalpkjfpmdpbiaaGreatDoor
namespace Go.Proofs.YtalpkjfpmdpbiaaGreatDoor
open Go Go.Vc Go.RowKit Go.Proofs Go.Chk Go.Runs Go.Code
section
variable {N F F' : Nat → Prop} {w w' v v' : World} {s1 s2 s3 : Sl} {T T' : Tb} {seed cap : Int} {t a b : Nat}
end
end Go.Proofs.YtalpkjfpmdpbiaaGreatDoor
namespace Go.Proofs.YtalpkjfpmdpbiaaGreatDoor
open Go Go.Vc Go.RowKit Go.Proofs Go.Chk Go.Runs Go.Code
end Go.Proofs.YtalpkjfpmdpbiaaGreatDoor
namespace Go.Proofs.YtalpkjfpmdpbiaaGreatDoor
open Go Go.Vc Go.RowKit Go.Proofs Go.Chk Go.Runs Go.Code
section
variable {N F F' : Nat → Prop} {w w' v v' : World} {s1 s2 s3 : Sl} {T T' : Tb} {seed cap : Int} {t a b : Nat}
theorem tfHere_spec (h : TF F w t seed cap T) : Calls Tryz.prog n_table_Table_Here #[.pointer (some ⟨t, 0, none⟩)] w fun e w' => ∃ s' : Sl, e = .returned (.slice s'.a s'.n s'.c) ∧ OwnK w.heap.size tPo 2 w' s' (T.2.map fun e => [.int .i64 e.1.1, .int .i64 e.1.2]) ∧ Ext w w' := by
 obtain ⟨st, d, r, sl, its, g1, e, rfl⟩ := h
 rw [← e]
 exact Here_spec g1
end
end Go.Proofs.YtalpkjfpmdpbiaaGreatDoor
