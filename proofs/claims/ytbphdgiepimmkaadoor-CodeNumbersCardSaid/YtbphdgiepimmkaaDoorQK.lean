import Derived.Test.YtbphdgiepimmkaaDoorQY
import Derived.Test.YtbphdgiepimmkaaDoorFr
set_option linter.all false
namespace Go.Proofs.YtbphdgiepimmkaaDoor
open Go Go.Vc Go.RowKit Go.Proofs Go.Runs Go.Code

theorem walk_CodeNumbers (n : Int) (a : Option Addr) (len cap : Nat) (z : List Int) (w : World) (hn : inI n) (hs : RdY w ⟨a, len, cap⟩ z) (hz : ∀ c ∈ z, (Lit.int .u8 c).wf = true) (hc : len ≤ cap) :
    Calls Tryd.prog 5 #[.int .i64 n, .slice a len cap] w (Good6 w) := CodeNumbers_good n ⟨a, len, cap⟩ z w hn hs (fun c h => u8_wf (hz c h)) hc
end Go.Proofs.YtbphdgiepimmkaaDoor
