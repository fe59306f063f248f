import Derived.Test.YtbnmglonbhdcbaaDoorKD
import Derived.Test.YtbnmglonbhdcbaaDoorKC
import Derived.Test.YtbnmglonbhdcbaaDoorFr
set_option linter.all false
namespace Go.Proofs.YtbnmglonbhdcbaaDoor
open Go Go.Vc Go.RowKit Go.Proofs Go.Chk

theorem walk_TableIds (b0 c0 b1 c1 : Int) (w : World) (_ : inI b0) (_ : inI c0) (_ : inI b1) (_ : inI c1) :
    Calls Tryd.prog 3 #[.agg #[.int .i64 b0, .int .i64 c0], .agg #[.int .i64 b1, .int .i64 c1]] w fun e w' => e = .returned (.bool true) ∧ Ext w w' :=
  TableIds_law (b0, c0) (b1, c1) w
theorem walk_TableRow (a : Option Addr) (len cap : Nat) (z : List (Int × Int)) (limit : Int) (w : World) (hs : RdK w ⟨a, len, cap⟩ 2 (z.map fun r => [.int .i64 r.1, .int .i64 r.2])) (hz : ∀ r ∈ z, inI r.1 ∧ inI r.2) (hc : len ≤ cap) (_ : inI limit) :
    Calls Tryd.prog 4 #[.slice a len cap, .int .i64 limit] w fun e w' => e = .returned (.bool true) ∧ Ext w w' :=
  TableRow_law ⟨a, len, cap⟩ z limit w hs hz hc
theorem walk_TablePins (n : Int) (a : Option Addr) (len cap : Nat) (z : List (Int × Int)) (limit : Int) (w : World) (hn : inI n) (hs : RdK w ⟨a, len, cap⟩ 2 (z.map fun r => [.int .i64 r.1, .int .i64 r.2])) (hz : ∀ r ∈ z, inI r.1 ∧ inI r.2) (hc : len ≤ cap) (_ : inI limit) :
    Calls Tryd.prog 5 #[.int .i64 n, .slice a len cap, .int .i64 limit] w fun e w' => e = .returned (.bool true) ∧ Ext w w' :=
  TablePins_law n hn ⟨a, len, cap⟩ z limit w hs hz hc
end Go.Proofs.YtbnmglonbhdcbaaDoor
