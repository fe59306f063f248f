import Derived.Test.YtalpkjfpmdpbiaaGreatDoorRF
import Derived.Test.YtalpkjfpmdpbiaaGreatDoorKU
set_option linter.all false
namespace Go.Proofs.YtalpkjfpmdpbiaaGreatDoor
open Go Go.Vc Go.RowKit Go.Proofs Go.bQ Go.aB Go.Code
def Ih (n:Nat) (l:List En):Prop:=∀e ∈ l,0<=e.2.2.2/\e.2.2.2<=n
structure Iv (m n:Nat) (T:Tb):Prop where
 m:mD T.1<=m
 p:Ih n T.2
 JU:qC T.2
abbrev Nf (N F:Nat->Prop):Nat->Prop:=fun i=>¬F i/\N i
section
variable {N F F':Nat->Prop} {w w' v v':World} {s1 s2 s3:Sl} {T T':Tb} {aa cap:Int} {t a b:Nat}
theorem TF.Jq (h:TF F w t aa cap T) {m n:Nat} (hi:Iv m n T) (hm:m<=400000):Jd T:=by
 have h1:=h.len
 exact ⟨h.ok,EK (by have:=hi.m;omega),h.JA,by omega⟩
end
end Go.Proofs.YtalpkjfpmdpbiaaGreatDoor
namespace Go.Proofs.YtalpkjfpmdpbiaaGreatDoor
open Go Go.Vc Go.RowKit Go.Proofs Go.bQ Go.aB Go.Code
section
variable {N F F':Nat->Prop} {w w' v v':World} {s1 s2 s3:Sl} {T T':Tb} {aa cap:Int} {t a b:Nat}
end
end Go.Proofs.YtalpkjfpmdpbiaaGreatDoor
namespace Go.Proofs.YtalpkjfpmdpbiaaGreatDoor
open Go Go.Vc Go.RowKit Go.Proofs Go.bQ Go.aB Go.Code
end Go.Proofs.YtalpkjfpmdpbiaaGreatDoor
namespace Go.Proofs.YtalpkjfpmdpbiaaGreatDoor
open Go Go.Vc Go.RowKit Go.Proofs Go.bQ Go.aB Go.Code
section
variable {N F F':Nat->Prop} {w w' v v':World} {s1 s2 s3:Sl} {T T':Tb} {aa cap:Int} {t a b:Nat}
theorem yP (h : TF F w t aa cap T) : Calls Tryz.prog cP #[.pointer (some ⟨t, 0, none⟩)] w fun e w' => ∃ s' : Sl, e = .returned s' ∧ af w.heap.size DR 2 w' s' (T.2.map fun e => [.int .i64 e.1.1, .int .i64 e.1.2]) ∧ Ext w w' := by
 obtain ⟨st, d, r, sl, its, g1, e, rfl⟩ := h
 rw [← e]
 exact CW g1
end
end Go.Proofs.YtalpkjfpmdpbiaaGreatDoor
