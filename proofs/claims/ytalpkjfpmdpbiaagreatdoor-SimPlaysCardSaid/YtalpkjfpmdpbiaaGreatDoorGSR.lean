import Derived.Test.YtalpkjfpmdpbiaaGreatDoorGD
set_option linter.all false
namespace Go.Proofs.YtalpkjfpmdpbiaaGreatDoor
open Go Go.Vc Go.RowKit Go.Proofs
set_option maxRecDepth 100000
set_option maxHeartbeats 8000000
set_option linter.unusedVariables false
variable {R:Ending->World->Prop} {w:World} {a0 a1 a2 a3 a4 a5 a6 a7 a8 a9 aq ar av aI aJ aK aL aH bO eE ao ak aw dB gn gB gC gD fM gE db dR dO ln lO nv ym yn yp yq yt yu yw yx yy yz yA yB yC yD:Int}
end Go.Proofs.YtalpkjfpmdpbiaaGreatDoor
