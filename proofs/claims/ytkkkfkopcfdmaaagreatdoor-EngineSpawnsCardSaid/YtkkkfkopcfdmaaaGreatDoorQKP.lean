import Derived.Test.YtkkkfkopcfdmaaaGreatDoorNJ
import Derived.Test.YtkkkfkopcfdmaaaGreatDoorFr
set_option linter.all false
namespace Go.Proofs.YtkkkfkopcfdmaaaGreatDoor
open Go Go.Vc Go.RowKit Go.Proofs Go.Chk
theorem walk_EngineSpawns (n gone : Int) (w : World) (hn : inI n) (hg : inI gone) :
  Calls Tryz.prog 3 #[.int .i64 n, .int .i64 gone] w fun e w' => e = .returned (.bool true) ∧ Ext w w' := EngineSpawns_law n gone w hn hg
end Go.Proofs.YtkkkfkopcfdmaaaGreatDoor
