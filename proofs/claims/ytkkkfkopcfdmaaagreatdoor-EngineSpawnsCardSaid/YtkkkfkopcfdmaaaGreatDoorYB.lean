import Derived.Test.YtkkkfkopcfdmaaaGreatDoorGF
import Derived.Test.YtkkkfkopcfdmaaaGreatDoorYA
import Derived.Test.YtkkkfkopcfdmaaaGreatDoorWA
set_option linter.all false
namespace Go.Proofs.YtkkkfkopcfdmaaaGreatDoor
open Go Go.Vc Go.RowKit Go.Proofs
set_option maxRecDepth 100000
set_option maxHeartbeats 8000000
set_option linter.unusedVariables false
end Go.Proofs.YtkkkfkopcfdmaaaGreatDoor
namespace Go.Proofs.YtkkkfkopcfdmaaaGreatDoor
open Go Go.Vc Go.RowKit Go.Proofs Go.Chk Go.Runs Go.Code Go.Flw
set_option maxRecDepth 100000
end Go.Proofs.YtkkkfkopcfdmaaaGreatDoor
namespace Go.Proofs.YtkkkfkopcfdmaaaGreatDoor
open Go Go.Vc Go.RowKit Go.Proofs Go.Chk Go.Runs Go.Code Go.Flw
set_option maxRecDepth 100000
end Go.Proofs.YtkkkfkopcfdmaaaGreatDoor
