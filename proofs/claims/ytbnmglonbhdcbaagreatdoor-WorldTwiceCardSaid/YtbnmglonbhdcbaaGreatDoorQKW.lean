import Derived.Test.YtbnmglonbhdcbaaGreatDoorKD
import Derived.Test.YtbnmglonbhdcbaaGreatDoorFr
set_option linter.all false
namespace Go.Proofs.YtbnmglonbhdcbaaGreatDoor
open Go Go.Vc Go.RowKit Go.Proofs Go.Chk

theorem walk_WorldTwice (seed b1 c1 d1 b2 c2 d2 x y : Int) (w : World) (_ : inI seed) (wb1 : inI b1) (wc1 : inI c1) (wd1 : inI d1) (wb2 : inI b2) (wc2 : inI c2) (wd2 : inI d2) (hx : inI x) (hy : inI y) :
    Calls Tryz.prog 5 #[.int .i64 seed, .agg #[.int .i64 b1, .int .i64 c1, .int .i64 d1], .agg #[.int .i64 b2, .int .i64 c2, .int .i64 d2], .int .i64 x, .int .i64 y] w fun e w' => e = .returned (.bool true) ∧ Ext w w' :=
  WorldTwice_law seed (b1, c1, d1) (b2, c2, d2) x y ⟨wb1, wc1, wd1⟩ ⟨wb2, wc2, wd2⟩ hx hy w
end Go.Proofs.YtbnmglonbhdcbaaGreatDoor
