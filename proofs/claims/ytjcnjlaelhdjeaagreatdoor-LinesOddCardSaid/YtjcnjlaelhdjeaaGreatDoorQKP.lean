import Derived.Test.YtjcnjlaelhdjeaaGreatDoorM
import Derived.Test.YtjcnjlaelhdjeaaGreatDoorD
set_option linter.all false
namespace Go.Proofs.YtjcnjlaelhdjeaaGreatDoor
open Go Go.Vc Go.RowKit Go.Proofs Go.iG Go.bW Go.aN Go.Code Go.dS Go.ej Go.fY
set_option maxRecDepth 100000
set_option maxHeartbeats 8000000
def walk_LinesOdd(a:ai)(len cap:Nat)(z:aa)(a1:aq)(w:au)(hr:RdK w ⟨a,len,cap⟩ 1 (z.map λs=>[bP s]))(_:len<=cap)(_:a1.size<=maxLen)(hs:w.ShapedOpen ka5)(hT:lP w):Y 8 #[.slice a len cap,.string a1] w λe w'=>e=true/\Ext w w':=by have⟨m,hm⟩:=aaQ hs;exact ab1 hm hT hr a1
end Go.Proofs.YtjcnjlaelhdjeaaGreatDoor
