import Derived.Test.YtfipllblcnahdaaDoorKKZ
import Derived.Test.YtfipllblcnahdaaDoorKCC
import Derived.Test.YtfipllblcnahdaaDoorKEE
import Derived.Test.YtfipllblcnahdaaDoorFr
set_option linter.all false
namespace Go.Proofs.YtfipllblcnahdaaDoor
open Go Go.Vc Go.RowKit Go.Proofs Go.Chk Go.Runs

theorem walk_ChunkBytes (seed b1 c1 : Int) (a : Option Addr) (len cap : Nat) (z : List (List Int)) (a' : Option Addr) (len' cap' : Nat) (b : List Int) (at' x : Int) (w : World) (_ : inI seed) (wb1 : inI b1) (wc1 : inI c1) (hs : RdK w ⟨a, len, cap⟩ 8 (z.map fun r => r.map fun n => .int .i64 n)) (hz : ∀ r ∈ z, r.length = 8 ∧ ∀ n ∈ r, inI n) (_ : len ≤ cap)
    (hb : RdK w ⟨a', len', cap'⟩ 1 (b.map fun n => [.int .u8 n])) (hbw : ∀ n ∈ b, (Lit.int .u8 n).wf = true) (hc : len' ≤ cap') (hat : inI at') (hx : 0 ≤ x ∧ x < 256) :
    Calls Tryd.prog 9 #[.int .i64 seed, .agg #[.int .i64 b1, .int .i64 c1], .slice a len cap, .slice a' len' cap', .int .i64 at', .int .u8 x] w fun e w' => e = .returned (.bool true) ∧ Ext w w' :=
  ChunkBytes_law seed (b1, c1) ⟨a, len, cap⟩ (z.map toDe) ⟨a', len', cap'⟩ b at' x ⟨wb1, wc1⟩ w (deeds_in hs hz) hb (fun n hn => u8_wf (hbw n hn)) hc hat hx
theorem walk_ChunkNew (a : Option Addr) (len cap : Nat) (z : List (Int × Int)) (seed : Int) (w : World) (hs : RdK w ⟨a, len, cap⟩ 2 (z.map fun r => [.int .i64 r.1, .int .i64 r.2])) (_ : ∀ r ∈ z, inI r.1 ∧ inI r.2) (hc : len ≤ cap) (_ : inI seed) :
    Calls Tryd.prog 5 #[.slice a len cap, .int .i64 seed] w fun e w' => e = .returned (.bool true) ∧ Ext w w' :=
  ChunkNew_law ⟨a, len, cap⟩ z seed w hs hc
end Go.Proofs.YtfipllblcnahdaaDoor
