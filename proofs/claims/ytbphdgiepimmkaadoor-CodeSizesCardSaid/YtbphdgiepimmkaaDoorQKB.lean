import Derived.Test.YtbphdgiepimmkaaDoorQAA
import Derived.Test.YtbphdgiepimmkaaDoorFr
set_option linter.all false
namespace Go.Proofs.YtbphdgiepimmkaaDoor
open Go Go.Vc Go.RowKit Go.Proofs Go.Runs Go.Code

theorem walk_CodeWrites (a : Option Addr) (len cap : Nat) (z : List Rn) (w : World) (hs : RdR w ⟨a, len, cap⟩ z) (hl : ∀ r ∈ z, inI r.1 ∧ inI r.2) (hc : len ≤ cap) :
    Calls Tryd.prog 3 #[.slice a len cap] w (Good6 w) := CodeWrites_good ⟨a, len, cap⟩ z w hs hc hl
theorem walk_CodeSizes (a : Option Addr) (len cap : Nat) (z : List Int) (a' : Option Addr) (len' cap' : Nat) (z' : List Int) (w : World) (hs : RdC w ⟨a, len, cap⟩ z) (hz : ∀ c ∈ z, (Lit.int .i64 c).wf = true) (_ : len ≤ cap)
    (hs' : RdC w ⟨a', len', cap'⟩ z') (hz' : ∀ c ∈ z', (Lit.int .i64 c).wf = true) (_ : len' ≤ cap') :
    Calls Tryd.prog 4 #[.slice a len cap, .slice a' len' cap'] w (Good6 w) := CodeSizes_good ⟨a, len, cap⟩ ⟨a', len', cap'⟩ z z' w hs hs' (fun c h => inI_wf' (hz c h)) (fun c h => inI_wf' (hz' c h))
end Go.Proofs.YtbphdgiepimmkaaDoor
