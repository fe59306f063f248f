import Derived.Test.YtfipllblcnahdaaDoorKT
import Derived.Test.YtfipllblcnahdaaDoorFr
set_option linter.all false
namespace Go.Proofs.YtfipllblcnahdaaDoor
open Go Go.Vc Go.RowKit Go.Proofs Go.Chk

def toDe : List Int → De
  | [a, b, c1, c2, c3, d1, d2, d3] => (a, b, (c1, c2, c3), (d1, d2, d3))
  | _ => (0, 0, (0, 0, 0), (0, 0, 0))
theorem toDe_eq {r : List Int} (h : r.length = 8) : (r.map fun n => Value.int .i64 n) = dvs (toDe r) := by
  match r, h with
  | [a, b, c1, c2, c3, d1, d2, d3], _ => rfl
theorem deeds_in {w : World} {s : Sl} {z : List (List Int)} (hs : RdK w s 8 (z.map fun r => r.map fun n => .int .i64 n)) (hz : ∀ r ∈ z, r.length = 8 ∧ ∀ n ∈ r, inI n) : RdK w s 8 ((z.map toDe).map dvs) := by
  have e : (z.map fun r => r.map fun n => Value.int .i64 n) = (z.map toDe).map dvs := by
    rw [List.map_map]
    exact List.map_congr_left fun r hr => toDe_eq (hz r hr).1
  rw [e] at hs
  exact hs
end Go.Proofs.YtfipllblcnahdaaDoor
