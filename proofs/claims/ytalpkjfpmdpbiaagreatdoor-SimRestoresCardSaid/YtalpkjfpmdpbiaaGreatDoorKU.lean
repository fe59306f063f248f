import Derived.Test.YtalpkjfpmdpbiaaGreatDoorKT
import Derived.Test.YtalpkjfpmdpbiaaGreatDoorP
set_option linter.all false
namespace Go.Proofs.YtalpkjfpmdpbiaaGreatDoor
open Go Go.Vc Go.RowKit Go.Proofs Go.bY Go.aD Go.Code
theorem C6(ae:Int)(p:Po):iF ae p []=made ae p:=rfl
end Go.Proofs.YtalpkjfpmdpbiaaGreatDoor
namespace Go.Proofs.YtalpkjfpmdpbiaaGreatDoor
open Go Go.Vc Go.RowKit Go.Proofs Go.bY Go.aD Go.Code
section
variable{w0 w w':World}{t:Nat}{ae limit:Int}{T:Tb}
end
end Go.Proofs.YtalpkjfpmdpbiaaGreatDoor
namespace Go.Proofs.YtalpkjfpmdpbiaaGreatDoor
open Go Go.Vc Go.RowKit Go.Proofs Go.bY Go.aD Go.Code
theorem Cu {p : Option Addr} {K : Prop} (hp : p.isSome = true) (h : K) : aK (ep p) K := aG.2 ⟨ef.2 hp, h⟩
theorem KV:sX jY/\sX FR:=by decide
end Go.Proofs.YtalpkjfpmdpbiaaGreatDoor
namespace Go.Proofs.YtalpkjfpmdpbiaaGreatDoor
open Go Go.Vc Go.RowKit Go.Proofs Go.bY Go.aD Go.Code
end Go.Proofs.YtalpkjfpmdpbiaaGreatDoor
