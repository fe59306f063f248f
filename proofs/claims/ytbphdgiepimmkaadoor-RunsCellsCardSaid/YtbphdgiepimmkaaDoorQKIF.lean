import Derived.Test.YtbphdgiepimmkaaDoorX
import Derived.Test.YtbphdgiepimmkaaDoorFr
set_option linter.all false
namespace Go.Proofs.YtbphdgiepimmkaaDoor
open Go Go.Vc Go.RowKit Go.Proofs Go.Runs

theorem walk_RunsCells (a : Option Addr) (len cap : Nat) (z : List Int) (a' : Option Addr) (len' cap' : Nat) (z' : List Rn) (w : World) (hs : RdC w ⟨a, len, cap⟩ z) (hz : ∀ c ∈ z, (Lit.int .i64 c).wf = true) (_ : len ≤ cap)
    (hs' : RdR w ⟨a', len', cap'⟩ z') (hl : ∀ r ∈ z', inI r.1 ∧ inI r.2) (_ : len' ≤ cap') :
    Calls Tryd.prog 12 #[.slice a len cap, .slice a' len' cap'] w (Good w) := RunsCells_good ⟨a, len, cap⟩ ⟨a', len', cap'⟩ z z' w hs hs' (fun c h => inI_wf' (hz c h)) hl
end Go.Proofs.YtbphdgiepimmkaaDoor
