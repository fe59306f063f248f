import Derived.Test.YtbnmglonbhdcbaaGreatDoorKV
import Derived.Test.YtbnmglonbhdcbaaGreatDoorFr
set_option linter.all false
namespace Go.Proofs.YtbnmglonbhdcbaaGreatDoor
open Go Go.Vc Go.RowKit Go.Proofs Go.Chk

theorem walk_WorldViews (a : Option Addr) (len cap : Nat) (els : Int) (z : List Int) (b1 c1 d1 b2 c2 d2 b : Int) (w : World) (hs : RdK w ⟨a, len, cap⟩ 1 (z.map fun n => [.int .i64 n])) (hz : ∀ n ∈ z, inI n) (_ : len ≤ cap) (he : inI els) (wb1 : inI b1) (wc1 : inI c1) (wd1 : inI d1) (wb2 : inI b2) (wc2 : inI c2) (wd2 : inI d2) (_ : inI b) :
    Calls Tryz.prog 3 #[.agg #[.slice a len cap, .int .i64 els], .agg #[.int .i64 b1, .int .i64 c1, .int .i64 d1], .agg #[.int .i64 b2, .int .i64 c2, .int .i64 d2], .int .i64 b] w fun e w' => e = .returned (.bool true) ∧ Ext w w' :=
  WorldViews_law ⟨a, len, cap⟩ z els (b1, c1, d1) (b2, c2, d2) b w hs hz he ⟨wb1, wc1, wd1⟩ ⟨wb2, wc2, wd2⟩
end Go.Proofs.YtbnmglonbhdcbaaGreatDoor
