import Derived.Test.YtalpkjfpmdpbiaaGreatDoorZP
import Derived.Test.YtalpkjfpmdpbiaaGreatDoorFr
set_option linter.all false
namespace Go.Proofs.YtalpkjfpmdpbiaaGreatDoor
open Go Go.Vc Go.RowKit Go.Proofs Go.dQ
def walk_SimBudgets(ag aO:Int)(a:Option Addr)(len cap:Nat)(z:List (List Int))(ticks:Int)(w:World)(_:inI ag)(_:inI aO)
  (hs:RdK w ⟨a,len,cap⟩ 6 (z.map λr=>r.map λn=> .int .i64 n))(hz:∀r ∈ z,r.length=6/\∀n ∈ r,inI n)(_:len<=cap)(ht:inI ticks):
  ah 7 #[ag,aO,.slice a len cap,ticks] w λe w'=>e=true/\Ext w w':=
 AL ag aO ⟨a,len,cap⟩ z ticks w ht hs hz
end Go.Proofs.YtalpkjfpmdpbiaaGreatDoor
