import Derived.Test.YtkkkfkopcfdmaaaGreatDoorL
set_option linter.all false
namespace Go.Proofs.YtkkkfkopcfdmaaaGreatDoor
open Go Go.Vc Go.RowKit Go.Proofs Go.dK
theorem walk_EnginePlays (ar da:Int) (a:Option Addr) (len cap:Nat) (z:List (LV)) (w:World) (_:bS ar) (_:bS da)
  (hs:RdK w ⟨a,len,cap⟩ 17 z) (hz:∀r ∈ z,MixR dKs r) (_:len<=cap):
  ah 4 #[ar,da,.slice a len cap] w λe w'=>e=true/\Ext w w':=by
 obtain ⟨ds,rfl,hd⟩:=Kz hz;exact Bu ar da (sl:=⟨a,len,cap⟩) hs hd
end Go.Proofs.YtkkkfkopcfdmaaaGreatDoor
