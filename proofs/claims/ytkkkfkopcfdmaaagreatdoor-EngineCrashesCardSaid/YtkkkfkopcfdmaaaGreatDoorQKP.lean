import Derived.Test.YtkkkfkopcfdmaaaGreatDoorL
import Derived.Test.YtkkkfkopcfdmaaaGreatDoorK
set_option linter.all false
namespace Go.Proofs.YtkkkfkopcfdmaaaGreatDoor
open Go Go.Vc Go.RowKit Go.Proofs Go.cg Go.aR Go.Code Go.ej Go.dR Go.gF
set_option maxRecDepth 100000
set_option maxHeartbeats 8000000
def walk_EngineCrashes(ag:Int)(a1:Option Addr)(n1 c1:Nat)(z1:List (LV))(a2:Option Addr)(n2 c2:Nat)(z2:List (LV))(aW:Int)(sv:Bool)(w:World)(_:dJ ag)
  (h1:RdK w ⟨a1,n1,c1⟩ 17 z1)(m1:∀r ∈ z1,MixR dKs r)(_:n1<=c1)(h2:RdK w ⟨a2,n2,c2⟩ 17 z2)(m2:∀r ∈ z2,MixR dKs r)(_:n2<=c2)(_:dJ aW):
  ae 8 #[ag,.slice a1 n1 c1,.slice a2 n2 c2,aW,sv] w λe w'=>e=true/\Ext w w':=by
 obtain ⟨ds,rfl,hd⟩:=GS m1;obtain ⟨ds',rfl,hd'⟩:=GS m2;exact A4 ag aW sv (s1:=⟨a1,n1,c1⟩) (s2:=⟨a2,n2,c2⟩) h1 hd h2 hd'
end Go.Proofs.YtkkkfkopcfdmaaaGreatDoor
