import Derived.Test.YtalpkjfpmdpbiaaGreatDoorYV
import Derived.Test.YtalpkjfpmdpbiaaGreatDoorFr
set_option linter.all false
namespace Go.Proofs.YtalpkjfpmdpbiaaGreatDoor
open Go Go.Vc Go.RowKit Go.Proofs Go.bY
theorem walk_SimRestores (ae ax : Int) (a : Option Addr) (len cap : Nat) (z : List (List Int)) (ticks more : Int) (w : World) (_ : inI ae) (_ : inI ax)
  (hs : RdK w ⟨a, len, cap⟩ 6 (z.map fun r => r.map fun n => .int .i64 n)) (hz : ∀ r ∈ z, r.length = 6 ∧ ∀ n ∈ r, inI n) (_ : len ≤ cap) (ht : inI ticks) (hm : inI more) :
  Calls Tryz.prog 6 #[ae, ax, .slice a len cap, ticks, more] w fun e w' => e = .returned (.bool true) ∧ Ext w w' :=
 vr ae ax ⟨a, len, cap⟩ z ticks more w ht hm hs hz
end Go.Proofs.YtalpkjfpmdpbiaaGreatDoor
