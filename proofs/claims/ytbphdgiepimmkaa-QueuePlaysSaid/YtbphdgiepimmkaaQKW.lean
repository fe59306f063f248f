import Derived.Test.YtbphdgiepimmkaaQW
import Derived.Test.YtbphdgiepimmkaaFr2
set_option linter.all false
namespace Go.Proofs.Ytbphdgiepimmkaa
open Go Go.Vc Go.RowKit Go.Proofs Go.Que

def toDd : List Int → Dd
  | [a, b, c, d, e, f] => (a, b, c, d, e, f)
  | _ => (0, 0, 0, 0, 0, 0)
theorem toDd_eq {r : List Int} (h : r.length = 6) : (r.map fun n => Value.int .i64 n) = ddv (toDd r) := by
  match r, h with
  | [a, b, c, d, e, f], _ => rfl
theorem toDd_in {r : List Int} (h : r.length = 6) (hi : ∀ n ∈ r, inI n) : inI (toDd r).2.2.2.1 ∧ inI (toDd r).2.2.2.2.1 ∧ inI (toDd r).2.2.2.2.2 := by
  match r, h with
  | [a, b, c, d, e, f], _ => exact ⟨hi d (by simp), hi e (by simp), hi f (by simp)⟩
theorem walk_QueuePlays (room : Int) (a : Option Addr) (len cap : Nat) (z : List (List Int)) (w : World) (_ : inI room) (hs : RdK w ⟨a, len, cap⟩ 6 (z.map fun r => r.map fun n => .int .i64 n)) (hz : ∀ r ∈ z, r.length = 6 ∧ ∀ n ∈ r, inI n) (_ : len ≤ cap) :
    Calls Try.prog 6 #[.int .i64 room, .slice a len cap] w fun e w' => e = .returned (.bool true) ∧ Ext w w' := by
  have e : (z.map fun r => r.map fun n => Value.int .i64 n) = (z.map toDd).map ddv := by
    rw [List.map_map]
    exact List.map_congr_left fun r hr => toDd_eq (hz r hr).1
  rw [e] at hs
  exact QueuePlays_law room ⟨a, len, cap⟩ (z.map toDd) w hs (fun d hd => by
    obtain ⟨r, hr, rfl⟩ := List.mem_map.1 hd
    exact toDd_in (hz r hr).1 (hz r hr).2)
end Go.Proofs.Ytbphdgiepimmkaa
