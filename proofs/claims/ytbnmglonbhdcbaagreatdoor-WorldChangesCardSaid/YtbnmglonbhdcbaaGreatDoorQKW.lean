import Derived.Test.YtbnmglonbhdcbaaGreatDoorKF
import Derived.Test.YtbnmglonbhdcbaaGreatDoorFr
set_option linter.all false
namespace Go.Proofs.YtbnmglonbhdcbaaGreatDoor
open Go Go.Vc Go.RowKit Go.Proofs Go.Chk

theorem walk_WorldChanges (seed : Int) (a1 : Option Addr) (len1 cap1 : Nat) (z1 : List (List Int)) (a2 : Option Addr) (len2 cap2 : Nat) (z2 : List (List Int)) (w : World) (_ : inI seed)
    (hs1 : RdK w ⟨a1, len1, cap1⟩ 10 (z1.map fun r => r.map fun n => .int .i64 n)) (hz1 : ∀ r ∈ z1, r.length = 10 ∧ ∀ n ∈ r, inI n) (_ : len1 ≤ cap1)
    (hs2 : RdK w ⟨a2, len2, cap2⟩ 3 (z2.map fun r => r.map fun n => .int .i64 n)) (hz2 : ∀ r ∈ z2, r.length = 3 ∧ ∀ n ∈ r, inI n) (_ : len2 ≤ cap2) :
    Calls Tryz.prog 6 #[.int .i64 seed, .slice a1 len1 cap1, .slice a2 len2 cap2] w fun e w' => e = .returned (.bool true) ∧ Ext w w' :=
  WorldChanges_law seed ⟨a1, len1, cap1⟩ ⟨a2, len2, cap2⟩ z1 z2 w hs1 hz1 hs2 hz2
end Go.Proofs.YtbnmglonbhdcbaaGreatDoor
