import Derived.Test.YtbnmglonbhdcbaaGreatDoorGR
set_option linter.all false
namespace Go.Proofs.YtbnmglonbhdcbaaGreatDoor
open Go Go.Vc Go.RowKit Go.Proofs
set_option maxRecDepth 100000
set_option maxHeartbeats 8000000
set_option linter.unusedVariables false
end Go.Proofs.YtbnmglonbhdcbaaGreatDoor
