import Derived.Test.YtalpkjfpmdpbiaaGreatDoorZP
import Derived.Test.YtalpkjfpmdpbiaaGreatDoorFr
set_option linter.all false
namespace Go.Proofs.YtalpkjfpmdpbiaaGreatDoor
open Go Go.Vc Go.RowKit Go.Proofs Go.dS
def Wu{z:List (List Int)}(h:∀r ∈ z,r.length=3):∃l:List Ce,(z.map λr=>r.map λn=>Value.int .i64 n)=l.map dn:=by
 induction z with
 |nil=>exact ⟨[],rfl⟩
 |cons r z ih=>
  obtain ⟨l,hl⟩:=ih λx hx=>h x (.tail _ hx)
  match r,h r (.head _) with
  | [x,y,k],_=>exact ⟨(x,y,k)::l,by simp only [dG,hl];rfl⟩
def walk_SimPlays(ag aO:Int)(a:Option Addr)(len cap:Nat)(z:List (List Int))(a2:Option Addr)(len2 cap2:Nat)(z2:List (List Int))(w:World)(_:inI ag)(_:inI aO)
  (hs:RdK w ⟨a,len,cap⟩ 3 (z.map λr=>r.map λn=> .int .i64 n))(hz:∀r ∈ z,r.length=3/\∀n ∈ r,inI n)(_:len<=cap)
  (jE:RdK w ⟨a2,len2,cap2⟩ 6 (z2.map λr=>r.map λn=> .int .i64 n))(QQ:∀r ∈ z2,r.length=6/\∀n ∈ r,inI n)(_:len2<=cap2):
  ah 8 #[ag,aO,.slice a len cap,.slice a2 len2 cap2] w λe w'=>e=true/\Ext w w':=by
 obtain ⟨l,hl⟩:=Wu λr hr=>(hz r hr).1
 rw [hl] at hs;exact EK ag aO ⟨a,len,cap⟩ l ⟨a2,len2,cap2⟩ z2 w hs jE QQ
end Go.Proofs.YtalpkjfpmdpbiaaGreatDoor
