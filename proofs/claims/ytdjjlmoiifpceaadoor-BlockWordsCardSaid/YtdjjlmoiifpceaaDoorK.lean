import Derived.Test.YtdjjlmoiifpceaaDoorJ
set_option linter.all false
namespace Go.Proofs.YtdjjlmoiifpceaaDoor
open Go Go.Vc Go.RowKit Go.Proofs

theorem inI_wf {n : Int} (h : (Lit.int .i64 n).wf = true) : inI n := by
  have h1 : IntKind.min .i64 = -9223372036854775808 := by decide
  have h2 : IntKind.max .i64 = 9223372036854775807 := by decide
  simp only [Lit.wf, Bool.and_eq_true, decide_eq_true_eq, h1, h2] at h
  exact h
theorem walk_BlockNames (a0 : Int) (a1 : ByteArray) (w0 : (Lit.int .i64 a0).wf = true) (_ : a1.size ≤ maxLen) (w : World) : Calls Tryd.prog 3 #[.int .i64 a0, .string a1] w (Good w) := BlockNames_good a0 (inI_wf w0) a1 w
theorem walk_BlockWords (a0 a1 : Int) (w0 : (Lit.int .i64 a0).wf = true) (w1 : (Lit.int .i64 a1).wf = true) (w : World) : Calls Tryd.prog 4 #[.int .i64 a0, .int .i64 a1] w (Good w) := BlockWords_good a0 a1 (inI_wf w0) (inI_wf w1) w
theorem walk_BlockWaters (a0 : Int) (w0 : (Lit.int .i64 a0).wf = true) (w : World) : Calls Tryd.prog 5 #[.int .i64 a0] w (Good w) := BlockWaters_good a0 (inI_wf w0) w
theorem walk_BlockKinds (a0 : Int) (w0 : (Lit.int .i64 a0).wf = true) (w : World) : Calls Tryd.prog 6 #[.int .i64 a0] w (Good w) := BlockKinds_good a0 (inI_wf w0) w
end Go.Proofs.YtdjjlmoiifpceaaDoor
