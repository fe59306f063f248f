import Derived.Test.YtjcnjlaelhdjeaaGreatDoorM
import Derived.Test.YtjcnjlaelhdjeaaGreatDoorD
set_option linter.all false
namespace Go.Proofs.YtjcnjlaelhdjeaaGreatDoor
open Go Go.Vc Go.RowKit Go.Proofs Go.iG Go.bW Go.aN Go.Code Go.dS Go.ej Go.fY
set_option linter.unusedVariables false
set_option maxRecDepth 100000
def walk_TopUnseen(a0Y7:Int)(a:Option Addr)(len cap:Nat)(z:List ByteArray)(b:Option Addr)(len2 cap2:Nat)(y:List Int)(w:World)(ha:cH a0Y7)(hr:RdK w ⟨a,len,cap⟩ 1 (z.map λs=>[Value.string s]))(_:len<=cap)(hr2:RdK w ⟨b,len2,cap2⟩ 1 (y.map λn=>[Value.int .i64 n]))(hin:∀n∈y,cH n)(_:len2<=cap2)(hs:w.ShapedOpen Tryz.prog)(hT:lP w):
  Calls Tryz.prog 4 #[.int .i64 a0Y7,.slice a len cap,.slice b len2 cap2] w λe w'=>e=.returned (.bool true)/\Ext w w':=by
 obtain⟨m,hm⟩:=aaQ hs;exact J0 (a1:=⟨a,len,cap⟩) (txs:=z) (a2:=⟨b,len2,cap2⟩) (ways:=y) hm hT a0Y7 ha hr hr2 hin
end Go.Proofs.YtjcnjlaelhdjeaaGreatDoor
