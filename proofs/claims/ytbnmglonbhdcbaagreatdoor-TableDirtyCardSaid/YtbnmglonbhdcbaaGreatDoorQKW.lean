import Derived.Test.YtbnmglonbhdcbaaGreatDoorKV
import Derived.Test.YtbnmglonbhdcbaaGreatDoorFr
set_option linter.all false
namespace Go.Proofs.YtbnmglonbhdcbaaGreatDoor
open Go Go.Vc Go.RowKit Go.Proofs Go.Chk

def toD (r : List Int × Sl × List Int) : Dd := ⟨r.1.getD 0 0, r.1.getD 1 0, r.1.getD 2 0, r.1.getD 3 0, r.1.getD 4 0, r.1.getD 5 0, r.1.getD 6 0, r.1.getD 7 0, r.2.1, r.2.2⟩
theorem toD_ok {w : World} {s : Sl} {z : List (List Int × Sl × List Int)} (hs : RdK w s 9 (z.map fun r => (r.1.map fun n => .int .i64 n) ++ [.slice r.2.1.a r.2.1.n r.2.1.c])) (hz : ∀ r ∈ z, r.1.length = 8 ∧ (∀ n ∈ r.1, inI n) ∧ RdK w r.2.1 1 (r.2.2.map fun n => [.int .u8 n]) ∧ (∀ n ∈ r.2.2, 0 ≤ n ∧ n < 256) ∧ r.2.1.n ≤ r.2.1.c) :
    RdK w s 9 ((z.map toD).map dR) ∧ ∀ d ∈ z.map toD, DdOk w d := by
  have e : ∀ r ∈ z, (r.1.map fun n => Value.int .i64 n) ++ [.slice r.2.1.a r.2.1.n r.2.1.c] = dR (toD r) ∧ DdOk w (toD r) := fun r hr => by
    obtain ⟨h1, h2, h3, h4, h5⟩ := hz r hr
    obtain ⟨r1, r2⟩ := r
    match r1, h1, h2 with
    | [a0, a1, a2, a3, a4, a5, a6, a7], _, h2 =>
      exact ⟨rfl, ⟨h2 a0 (by simp), h2 a1 (by simp), h2 a2 (by simp), h2 a3 (by simp), h2 a4 (by simp), h2 a5 (by simp), h2 a6 (by simp), h2 a7 (by simp)⟩, h3, h4, h5⟩
  constructor
  · rw [List.map_map]
    have : (z.map fun r => (r.1.map fun n => Value.int .i64 n) ++ [.slice r.2.1.a r.2.1.n r.2.1.c]) = z.map (dR ∘ toD) := List.map_congr_left fun r hr => (e r hr).1
    rw [← this]; exact hs
  · intro d hd
    obtain ⟨r, hr, rfl⟩ := List.mem_map.1 hd
    exact (e r hr).2
theorem walk_TableDirty (seed : Int) (a : Option Addr) (len cap : Nat) (z : List (List Int × Sl × List Int)) (w : World) (_ : inI seed) (hs : RdK w ⟨a, len, cap⟩ 9 (z.map fun r => (r.1.map fun n => .int .i64 n) ++ [.slice r.2.1.a r.2.1.n r.2.1.c])) (hz : ∀ r ∈ z, r.1.length = 8 ∧ (∀ n ∈ r.1, inI n) ∧ RdK w r.2.1 1 (r.2.2.map fun n => [.int .u8 n]) ∧ (∀ n ∈ r.2.2, 0 ≤ n ∧ n < 256) ∧ r.2.1.n ≤ r.2.1.c) (_ : len ≤ cap) :
    Calls Tryz.prog 7 #[.int .i64 seed, .slice a len cap] w fun e w' => e = .returned (.bool true) ∧ Ext w w' :=
  TableDirty_law seed ⟨a, len, cap⟩ (z.map toD) w (toD_ok hs hz).1 (toD_ok hs hz).2
end Go.Proofs.YtbnmglonbhdcbaaGreatDoor
