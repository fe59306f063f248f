import Derived.Test.YtbnmglonbhdcbaaGreatDoorWD
import Derived.Test.YtbnmglonbhdcbaaGreatDoorFr
set_option linter.all false
namespace Go.Proofs.YtbnmglonbhdcbaaGreatDoor
open Go Go.Vc Go.RowKit Go.Proofs Go.Chk
theorem walk_WorldPlays (seed limit : Int) (a : Option Addr) (len cap : Nat) (z : List (List Int)) (x y v : Int) (w : World) (_ : inI seed) (_ : inI limit)
  (hs : RdK w ⟨a, len, cap⟩ 10 (z.map fun r => r.map fun n => .int .i64 n)) (hz : ∀ r ∈ z, r.length = 10 ∧ ∀ n ∈ r, inI n) (_ : len ≤ cap) (hx : inI x) (hy : inI y) (hv : inI v) :
  Calls Tryz.prog 10 #[.int .i64 seed, .int .i64 limit, .slice a len cap, .agg #[.int .i64 x, .int .i64 y, .int .i64 v]] w fun e w' => e = .returned (.bool true) ∧ Ext w w' :=
 WorldPlays_law seed limit ⟨a, len, cap⟩ z (x, y, v) w ⟨hx, hy, hv⟩ hs hz
end Go.Proofs.YtbnmglonbhdcbaaGreatDoor
