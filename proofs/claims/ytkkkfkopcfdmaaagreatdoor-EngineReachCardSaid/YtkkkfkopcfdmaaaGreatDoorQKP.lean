import Derived.Test.YtkkkfkopcfdmaaaGreatDoorL
import Derived.Test.YtkkkfkopcfdmaaaGreatDoorC
set_option linter.all false
namespace Go.Proofs.YtkkkfkopcfdmaaaGreatDoor
open Go Go.Vc Go.RowKit Go.Proofs Go.dJ
theorem walk_EngineReach(ar:Int)(a:Option Addr)(len cap:Nat)(z:List (LV))(b c d:Int)(w:World)(_:inI ar)
  (hs:RdK w ⟨a,len,cap⟩ 17 z)(hz:∀r ∈ z,MixR dKs r)(_:len<=cap)(_:inI b)(_:inI c)(_:inI d):
  ah 7 #[ar,.slice a len cap,.agg #[b,c,d]] w λe w'=>e=true/\Ext w w':=by
 obtain ⟨ds,rfl,hd⟩:=KJ hz;exact BO ar (sl:=⟨a,len,cap⟩) (b,c,d) hs hd
end Go.Proofs.YtkkkfkopcfdmaaaGreatDoor
