import Derived.Test.YtbnmglonbhdcbaaGreatDoorRL
import Derived.Test.YtbnmglonbhdcbaaGreatDoorFr
set_option linter.all false
namespace Go.Proofs.YtbnmglonbhdcbaaGreatDoor
open Go Go.Vc Go.RowKit Go.Proofs Go.Chk
theorem walk_TablePlays (seed x y : Int) (a : Option Addr) (len cap : Nat) (z : List (List Int × Sl × List Int)) (w : World) (_ : inI seed) (_ : inI x) (hy : inI y) (hs : RdK w ⟨a, len, cap⟩ 9 (z.map fun r => (r.1.map fun n => .int .i64 n) ++ [.slice r.2.1.a r.2.1.n r.2.1.c])) (hz : ∀ r ∈ z, r.1.length = 8 ∧ (∀ n ∈ r.1, inI n) ∧ RdK w r.2.1 1 (r.2.2.map fun n => [.int .u8 n]) ∧ (∀ n ∈ r.2.2, 0 ≤ n ∧ n < 256) ∧ r.2.1.n ≤ r.2.1.c) (_ : len ≤ cap) :
  Calls Tryz.prog 11 #[.int .i64 seed, .int .i64 x, .int .i64 y, .slice a len cap] w fun e w' => e = .returned (.bool true) ∧ Ext w w' :=
 TablePlays_law seed x y ⟨a, len, cap⟩ (z.map toD) w hy (toD_ok hs hz).1 (toD_ok hs hz).2
end Go.Proofs.YtbnmglonbhdcbaaGreatDoor
