import Derived.Test.YtfipllblcnahdaaDoorQGGF
set_option linter.all false
namespace Go.Proofs.YtfipllblcnahdaaDoor
open Go Go.Vc Go.RowKit Go.Proofs Go.Runs

theorem allRd_lt {b : Nat} {s : Sl} {l : List Rn} {w : World} (hs : RdR w s l) {i : Nat} (h : allRd b s l i) : i = b ∨ i < w.heap.size := by
  rcases h with h | ⟨h1, h2⟩
  · exact .inl h
  · exact .inr (RdK.blk_lt hs (by omega) (by simpa using h1) h2)
end Go.Proofs.YtfipllblcnahdaaDoor
