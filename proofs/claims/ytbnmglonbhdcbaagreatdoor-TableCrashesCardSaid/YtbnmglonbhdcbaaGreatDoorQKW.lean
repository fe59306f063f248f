import Derived.Test.YtbnmglonbhdcbaaGreatDoorKW
import Derived.Test.YtbnmglonbhdcbaaGreatDoorFr
set_option linter.all false
namespace Go.Proofs.YtbnmglonbhdcbaaGreatDoor
open Go Go.Vc Go.RowKit Go.Proofs Go.Chk

theorem walk_TableCrashes (seed b1 c1 d1 x y keep : Int) (w : World) (_ : inI seed) (wb1 : inI b1) (wc1 : inI c1) (wd1 : inI d1) (hx : inI x) (hy : inI y) (_ : inI keep) :
    Calls Tryz.prog 8 #[.int .i64 seed, .agg #[.int .i64 b1, .int .i64 c1, .int .i64 d1], .int .i64 x, .int .i64 y, .int .i64 keep] w fun e w' => e = .returned (.bool true) ∧ Ext w w' :=
  TableCrashes_law seed (b1, c1, d1) x y keep w ⟨wb1, wc1, wd1⟩ hx hy
end Go.Proofs.YtbnmglonbhdcbaaGreatDoor
