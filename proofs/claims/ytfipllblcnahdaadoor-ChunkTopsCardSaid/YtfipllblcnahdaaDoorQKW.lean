import Derived.Test.YtfipllblcnahdaaDoorKKZ
import Derived.Test.YtfipllblcnahdaaDoorKAA
set_option linter.all false
namespace Go.Proofs.YtfipllblcnahdaaDoor
open Go Go.Vc Go.RowKit Go.Proofs Go.Chk

theorem walk_ChunkTops (seed b1 c1 : Int) (a : Option Addr) (len cap : Nat) (z : List (List Int)) (x y : Int) (w : World) (_ : inI seed) (wb1 : inI b1) (wc1 : inI c1) (hs : RdK w ⟨a, len, cap⟩ 8 (z.map fun r => r.map fun n => .int .i64 n)) (hz : ∀ r ∈ z, r.length = 8 ∧ ∀ n ∈ r, inI n) (_ : len ≤ cap) (_ : inI x) (_ : inI y) :
    Calls Tryd.prog 7 #[.int .i64 seed, .agg #[.int .i64 b1, .int .i64 c1], .slice a len cap, .int .i64 x, .int .i64 y] w fun e w' => e = .returned (.bool true) ∧ Ext w w' :=
  ChunkTops_law seed (b1, c1) ⟨a, len, cap⟩ (z.map toDe) x y ⟨wb1, wc1⟩ w (deeds_in hs hz)
end Go.Proofs.YtfipllblcnahdaaDoor
