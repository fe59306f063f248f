import Derived.Test.YtbphdgiepimmkaaDoorZ
import Derived.Test.YtbphdgiepimmkaaDoorFr
set_option linter.all false
namespace Go.Proofs.YtbphdgiepimmkaaDoor
open Go Go.Vc Go.RowKit Go.Proofs Go.Runs

theorem walk_RunsTwo (a : Option Addr) (len cap : Nat) (z : List Rn) (i k x y : Int) (w : World) (hs : RdR w ⟨a, len, cap⟩ z) (hl : ∀ r ∈ z, inI r.1 ∧ inI r.2) (_ : len ≤ cap) (hi : inI i) (hk : inI k) (hx : inI x) (hy : inI y) :
    Calls Tryd.prog 6 #[.slice a len cap, .int .i64 i, .int .i64 k, .int .i64 x, .int .i64 y] w (Good w) := RunsTwo_good ⟨a, len, cap⟩ z i k x y w hs hl hi hk hx hy
theorem walk_RunsMay (a : Option Addr) (len cap : Nat) (z : List Rn) (n t b c : Int) (w : World) (hs : RdR w ⟨a, len, cap⟩ z) (hl : ∀ r ∈ z, inI r.1 ∧ inI r.2) (hc : len ≤ cap) (hn : inI n) (ht : inI t) (_ : inI b) (_ : inI c) :
    Calls Tryd.prog 7 #[.slice a len cap, .int .i64 n, .int .i64 t, .agg #[.int .i64 b, .int .i64 c]] w (Good w) := RunsMay_good ⟨a, len, cap⟩ z n t (b, c) w hs hc hl hn ht
theorem walk_RunsFill (a : Option Addr) (len cap : Nat) (z : List Rn) (i k x : Int) (w : World) (hs : RdR w ⟨a, len, cap⟩ z) (hl : ∀ r ∈ z, inI r.1 ∧ inI r.2) (_ : len ≤ cap) (hi : inI i) (hk : inI k) (hx : inI x) :
    Calls Tryd.prog 8 #[.slice a len cap, .int .i64 i, .int .i64 k, .int .i64 x] w (Good w) := RunsFill_good ⟨a, len, cap⟩ z i k x w hs hl hi hk hx
theorem walk_RunsBack (a : Option Addr) (len cap : Nat) (z : List Rn) (i x : Int) (w : World) (hs : RdR w ⟨a, len, cap⟩ z) (hl : ∀ r ∈ z, inI r.1 ∧ inI r.2) (_ : len ≤ cap) (hi : inI i) (hx : inI x) :
    Calls Tryd.prog 9 #[.slice a len cap, .int .i64 i, .int .i64 x] w (Good w) := RunsBack_good ⟨a, len, cap⟩ z i x w hs hl hi hx
theorem walk_RunsSet (a : Option Addr) (len cap : Nat) (z : List Rn) (i x : Int) (w : World) (hs : RdR w ⟨a, len, cap⟩ z) (hl : ∀ r ∈ z, inI r.1 ∧ inI r.2) (_ : len ≤ cap) (hi : inI i) (hx : inI x) :
    Calls Tryd.prog 10 #[.slice a len cap, .int .i64 i, .int .i64 x] w (Good w) := RunsSet_good ⟨a, len, cap⟩ z i x w hs hl hi hx
theorem walk_RunsMake (n b : Int) (w : World) (hn : inI n) (hb : inI b) :
    Calls Tryd.prog 11 #[.int .i64 n, .int .i64 b] w (Good w) := RunsMake_good n b w hn hb
end Go.Proofs.YtbphdgiepimmkaaDoor
