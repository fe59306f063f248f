import Derived.Test.YtfipllblcnahdaaDoorKX
import Derived.Test.YtfipllblcnahdaaDoorFr2
set_option linter.all false
namespace Go.Proofs.YtfipllblcnahdaaDoor
open Go Go.Vc Go.RowKit Go.Proofs Go.Chk

theorem walk_ChunkAt (seed b1 c1 b2 c2 d2 b : Int) (w : World) (_ : inI seed) (wb1 : inI b1) (wc1 : inI c1) (wb2 : inI b2) (wc2 : inI c2) (wd2 : inI d2) (hb : inI b) :
    Calls Tryd.prog 4 #[.int .i64 seed, .agg #[.int .i64 b1, .int .i64 c1], .agg #[.int .i64 b2, .int .i64 c2, .int .i64 d2], .int .i64 b] w fun e w' => e = .returned (.bool true) ∧ Ext w w' :=
  ChunkAt_law seed (b1, c1) (b2, c2, d2) b ⟨wb1, wc1⟩ hb w
theorem walk_ChunkFlat (seed a b i : Int) (w : World) (_ : inI seed) (ha : inI a) (hb : inI b) (hi : inI i) :
    Calls Tryd.prog 8 #[.int .i64 seed, .int .i64 a, .int .i64 b, .int .i64 i] w fun e w' => e = .returned (.bool true) ∧ Ext w w' :=
  ChunkFlat_law seed a b i ha hb hi w
end Go.Proofs.YtfipllblcnahdaaDoor
