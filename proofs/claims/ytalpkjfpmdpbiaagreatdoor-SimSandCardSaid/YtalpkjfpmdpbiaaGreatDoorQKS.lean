import Derived.Test.YtalpkjfpmdpbiaaGreatDoorZD
import Derived.Test.YtalpkjfpmdpbiaaGreatDoorFr
set_option linter.all false
namespace Go.Proofs.YtalpkjfpmdpbiaaGreatDoor
open Go Go.Vc Go.RowKit Go.Proofs Go.bQ
theorem walk_SimSand (aa : Int) (x y z : Int) (w : World) (_ : inI aa) (_ : inI x) (_ : inI y) (_ : inI z) :
  Calls Tryz.prog 3 #[aa, .agg #[x, y, z]] w fun e w' => e = .returned (.bool true) ∧ Ext w w' := yC aa (x, y, z) w
end Go.Proofs.YtalpkjfpmdpbiaaGreatDoor
