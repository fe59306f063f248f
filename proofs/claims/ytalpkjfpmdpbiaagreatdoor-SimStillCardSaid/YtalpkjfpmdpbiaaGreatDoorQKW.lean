import Derived.Test.YtalpkjfpmdpbiaaGreatDoorYL
import Derived.Test.YtalpkjfpmdpbiaaGreatDoorFr
set_option linter.all false
namespace Go.Proofs.YtalpkjfpmdpbiaaGreatDoor
open Go Go.Vc Go.RowKit Go.Proofs Go.Chk
theorem walk_SimStill (seed budget ticks : Int) (a : Option Addr) (len cap : Nat) (z : List (List Int)) (w : World) (_ : inI seed) (_ : inI budget) (ht : inI ticks)
  (hs : RdK w ⟨a, len, cap⟩ 3 (z.map fun r => r.map fun n => .int .i64 n)) (hz : ∀ r ∈ z, r.length = 3 ∧ ∀ n ∈ r, inI n) (_ : len ≤ cap) :
  Calls Tryz.prog 5 #[.int .i64 seed, .int .i64 budget, .int .i64 ticks, .slice a len cap] w fun e w' => e = .returned (.bool true) ∧ Ext w w' :=
 SimStill_law seed budget ticks ⟨a, len, cap⟩ z w ht hs hz
end Go.Proofs.YtalpkjfpmdpbiaaGreatDoor
