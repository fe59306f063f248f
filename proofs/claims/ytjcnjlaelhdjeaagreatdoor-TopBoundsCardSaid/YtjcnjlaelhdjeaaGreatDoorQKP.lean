import Derived.Test.YtjcnjlaelhdjeaaGreatDoorM
import Derived.Test.YtjcnjlaelhdjeaaGreatDoorD
set_option linter.all false
namespace Go.Proofs.YtjcnjlaelhdjeaaGreatDoor
open Go Go.Vc Go.RowKit Go.Proofs Go.iG Go.bW Go.aN Go.Code Go.dS Go.ej Go.fY
set_option maxRecDepth 100000
set_option maxHeartbeats 8000000
def walk_TopBounds(a0:Int)(a:Option Addr)(len cap:Nat)(z:List ByteArray)(w:World)(ha:cH a0)(hr:RdK w ⟨a,len,cap⟩ 1 (z.map λs=> [Value.string s]))(_:len<=cap)(hs:w.ShapedOpen Tryz.prog)(hT:lP w):ed 9 #[a0,.slice a len cap] w true:=by obtain ⟨m,hm⟩:=aaQ hs;exact Jh (a1:=⟨a,len,cap⟩) (txs:=z) hm hT a0 ha hr
end Go.Proofs.YtjcnjlaelhdjeaaGreatDoor
