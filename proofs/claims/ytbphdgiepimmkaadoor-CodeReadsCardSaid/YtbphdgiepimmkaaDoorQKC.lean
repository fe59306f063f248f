import Derived.Test.YtbphdgiepimmkaaDoorQEE
import Derived.Test.YtbphdgiepimmkaaDoorFr
set_option linter.all false
namespace Go.Proofs.YtbphdgiepimmkaaDoor
open Go Go.Vc Go.RowKit Go.Proofs Go.Runs Go.Code

theorem walk_CodeAgain (a : Option Addr) (len cap : Nat) (z : List Int) (n : Int) (w : World) (hs : RdY w ⟨a, len, cap⟩ z) (hz : ∀ c ∈ z, (Lit.int .u8 c).wf = true) (hc : len ≤ cap) (hn : inI n) :
    Calls Tryd.prog 15 #[.slice a len cap, .int .i64 n] w (Good6 w) := CodeAgain_good ⟨a, len, cap⟩ z n w hs (fun c h => u8_wf (hz c h)) hc hn
theorem walk_CodeRound (a : Option Addr) (len cap : Nat) (z : List Rn) (x o : Int) (w : World) (hs : RdR w ⟨a, len, cap⟩ z) (hl : ∀ r ∈ z, inI r.1 ∧ inI r.2) (_ : len ≤ cap) (hx : 0 ≤ x ∧ x < 256) (ho : inI o) :
    Calls Tryd.prog 13 #[.slice a len cap, .int .u8 x, .int .i64 o] w (Good6 w) := CodeRound_good ⟨a, len, cap⟩ z x o w hs hl hx ho
theorem walk_CodeReads (a : Option Addr) (len cap : Nat) (z : List Int) (a' : Option Addr) (len' cap' : Nat) (z' : List Rn) (at_ x n : Int) (w : World) (hs : RdY w ⟨a, len, cap⟩ z) (hz : ∀ c ∈ z, (Lit.int .u8 c).wf = true) (hc : len ≤ cap)
    (hs' : RdR w ⟨a', len', cap'⟩ z') (hl : ∀ r ∈ z', inI r.1 ∧ inI r.2) (_ : len' ≤ cap') (hat : inI at_) (hx : 0 ≤ x ∧ x < 256) (hn : inI n) :
    Calls Tryd.prog 14 #[.slice a len cap, .slice a' len' cap', .int .i64 at_, .int .u8 x, .int .i64 n] w (Good6 w) := CodeReads_good ⟨a, len, cap⟩ ⟨a', len', cap'⟩ z z' at_ x n w hs (fun c h => u8_wf (hz c h)) hc hs' hl hat hx hn
end Go.Proofs.YtbphdgiepimmkaaDoor
