import Derived.Test.YtalpkjfpmdpbiaaGreatDoorYO
import Derived.Test.YtalpkjfpmdpbiaaGreatDoorFr
set_option linter.all false
namespace Go.Proofs.YtalpkjfpmdpbiaaGreatDoor
open Go Go.Vc Go.RowKit Go.Proofs Go.Chk
theorem walk_SimOccupied (seed b1 c1 d1 up : Int) (w : World) (_ : inI seed) (_ : inI b1) (_ : inI c1) (_ : inI d1) (hu : inI up) :
  Calls Tryz.prog 4 #[.int .i64 seed, .agg #[.int .i64 b1, .int .i64 c1, .int .i64 d1], .int .i64 up] w fun e w' => e = .returned (.bool true) ∧ Ext w w' :=
 SimOccupied_law seed up (b1, c1, d1) w hu
end Go.Proofs.YtalpkjfpmdpbiaaGreatDoor
