import Derived.Test.YtkkkfkopcfdmaaaGreatDoorK
import Derived.Test.YtkkkfkopcfdmaaaGreatDoorJ
set_option linter.all false
namespace Go.Proofs.YtkkkfkopcfdmaaaGreatDoor
open Go Go.Vc Go.RowKit Go.Proofs Go.cZ Go.aT Go.Code Go.fh Go.eH Go.gr
set_option maxRecDepth 100000
def walk_EngineCaches(ak:Int)(a1:Option Addr)(n1 c1:Nat)(z1:List (LV))(a2:Option Addr)(n2 c2:Nat)(z2:List (LV))(w:World)(_:bN ak)
  (h1:RdK w ⟨a1,n1,c1⟩ 17 z1)(m1:∀r ∈ z1,MixR dKs r)(_:n1<=c1)(h2:RdK w ⟨a2,n2,c2⟩ 17 z2)(m2:∀r ∈ z2,MixR dKs r)(_:n2<=c2):
  ah 6 #[ak,.slice a1 n1 c1,.slice a2 n2 c2] w λe w'=>e=true/\Ext w w':=by
 obtain ⟨ds,rfl,hd⟩:=FA m1;obtain ⟨ds',rfl,hd'⟩:=FA m2;exact BW ak (s1:=⟨a1,n1,c1⟩) (s2:=⟨a2,n2,c2⟩) h1 hd h2 hd'
end Go.Proofs.YtkkkfkopcfdmaaaGreatDoor
