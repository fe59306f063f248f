import Derived.Test.YtbphdgiepimmkaaQS
import Derived.Test.YtbphdgiepimmkaaFr
import Derived.Test.YtbphdgiepimmkaaQW
set_option linter.all false
namespace Go.Proofs.Ytbphdgiepimmkaa
open Go Go.Vc Go.RowKit Go.Proofs Go.Que

theorem walk_QueueRoom (a n : Int) (w : World) (ha : inI a) (hn : inI n) : Calls Try.prog 5 #[.int .i64 a, .int .i64 n] w fun e w' => e = .returned (.bool true) ∧ Ext w w' := QueueRoom_law a n ha hn w
end Go.Proofs.Ytbphdgiepimmkaa
namespace Go.Proofs.Ytbphdgiepimmkaa
open Go Go.Vc Go.RowKit Go.Proofs Go.Que

theorem walk_QueueOnce (a : Option Addr) (len cap : Nat) (z : List Int) (most : Int) (w : World) (hs : RdK w ⟨a, len, cap⟩ 1 (z.map fun n => [.int .i64 n])) (hz : ∀ n ∈ z, (Lit.int .i64 n).wf = true) (_ : len ≤ cap) (hm : inI most) :
    Calls Try.prog 3 #[.slice a len cap, .int .i64 most] w fun e w' => e = .returned (.bool true) ∧ Ext w w' := QueueOnce_law ⟨a, len, cap⟩ z most w hs (fun n h => inI_wf' (hz n h)) hm
theorem walk_QueueSplit (a : Option Addr) (len cap : Nat) (z : List Int) (most : Int) (w : World) (hs : RdK w ⟨a, len, cap⟩ 1 (z.map fun n => [.int .i64 n])) (hz : ∀ n ∈ z, (Lit.int .i64 n).wf = true) (_ : len ≤ cap) (hm : inI most) :
    Calls Try.prog 4 #[.slice a len cap, .int .i64 most] w fun e w' => e = .returned (.bool true) ∧ Ext w w' := QueueSplit_law ⟨a, len, cap⟩ z most w hs (fun n h => inI_wf' (hz n h)) hm
end Go.Proofs.Ytbphdgiepimmkaa
namespace Go.Proofs.Ytbphdgiepimmkaa
open Go Go.Vc Go.RowKit Go.Proofs Go.Que

def toDd : List Int → Dd
  | [a, b, c, d, e, f] => (a, b, c, d, e, f)
  | _ => (0, 0, 0, 0, 0, 0)
theorem toDd_eq {r : List Int} (h : r.length = 6) : (r.map fun n => Value.int .i64 n) = ddv (toDd r) := by
  match r, h with
  | [a, b, c, d, e, f], _ => rfl
theorem toDd_in {r : List Int} (h : r.length = 6) (hi : ∀ n ∈ r, inI n) : inI (toDd r).2.2.2.1 ∧ inI (toDd r).2.2.2.2.1 ∧ inI (toDd r).2.2.2.2.2 := by
  match r, h with
  | [a, b, c, d, e, f], _ => exact ⟨hi d (by simp), hi e (by simp), hi f (by simp)⟩
theorem walk_QueuePlays (room : Int) (a : Option Addr) (len cap : Nat) (z : List (List Int)) (w : World) (_ : inI room) (hs : RdK w ⟨a, len, cap⟩ 6 (z.map fun r => r.map fun n => .int .i64 n)) (hz : ∀ r ∈ z, r.length = 6 ∧ ∀ n ∈ r, inI n) (_ : len ≤ cap) :
    Calls Try.prog 6 #[.int .i64 room, .slice a len cap] w fun e w' => e = .returned (.bool true) ∧ Ext w w' := by
  have e : (z.map fun r => r.map fun n => Value.int .i64 n) = (z.map toDd).map ddv := by
    rw [List.map_map]
    exact List.map_congr_left fun r hr => toDd_eq (hz r hr).1
  rw [e] at hs
  exact QueuePlays_law room ⟨a, len, cap⟩ (z.map toDd) w hs (fun d hd => by
    obtain ⟨r, hr, rfl⟩ := List.mem_map.1 hd
    exact toDd_in (hz r hr).1 (hz r hr).2)
end Go.Proofs.Ytbphdgiepimmkaa
