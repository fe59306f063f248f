import Derived.Test.YtbnmglonbhdcbaaGreatDoorKH
import Derived.Test.YtbnmglonbhdcbaaGreatDoorFr
set_option linter.all false
namespace Go.Proofs.YtbnmglonbhdcbaaGreatDoor
open Go Go.Vc Go.RowKit Go.Proofs Go.Chk

theorem walk_WorldOpen (seed b1 c1 d1 b y : Int) (w : World) (_ : inI seed) (wb1 : inI b1) (wc1 : inI c1) (wd1 : inI d1) (hb : inI b) (hy : inI y) :
    Calls Tryz.prog 9 #[.int .i64 seed, .agg #[.int .i64 b1, .int .i64 c1, .int .i64 d1], .int .i64 b, .int .i64 y] w fun e w' => e = .returned (.bool true) ∧ Ext w w' :=
  WorldOpen_law seed (b1, c1, d1) b y ⟨wb1, wc1, wd1⟩ hb hy w
end Go.Proofs.YtbnmglonbhdcbaaGreatDoor
