import Derived.Test.YtkkkfkopcfdmaaaGreatDoorGQ
import Derived.Test.YtkkkfkopcfdmaaaGreatDoorLib
import Derived.Test.YtkkkfkopcfdmaaaGreatDoorP
set_option linter.all false
namespace Go.Proofs.YtkkkfkopcfdmaaaGreatDoor.Q
open Go Go.Vc Go.RowKit Go.Proofs Go.Que
set_option maxRecDepth 100000
abbrev tItem : TypeId := 157
abbrev tQueue : TypeId := 226
def GC (v : Value) : Prop := ∃ c : Cl, v = cv c
end Go.Proofs.YtkkkfkopcfdmaaaGreatDoor.Q
namespace Go.Proofs.YtkkkfkopcfdmaaaGreatDoor.Q
open Go Go.Vc Go.RowKit Go.Proofs Go.Que
set_option maxRecDepth 100000
end Go.Proofs.YtkkkfkopcfdmaaaGreatDoor.Q
namespace Go.Proofs.YtkkkfkopcfdmaaaGreatDoor.Q
open Go Go.Vc Go.RowKit Go.Proofs Go.Que
set_option maxRecDepth 100000
end Go.Proofs.YtkkkfkopcfdmaaaGreatDoor.Q
namespace Go.Proofs.YtkkkfkopcfdmaaaGreatDoor.Q
open Go Go.Vc Go.RowKit Go.Proofs Go.Que
set_option maxRecDepth 100000
end Go.Proofs.YtkkkfkopcfdmaaaGreatDoor.Q
namespace Go.Proofs.YtkkkfkopcfdmaaaGreatDoor.Q
open Go Go.Vc Go.RowKit Go.Proofs Go.Que
set_option maxRecDepth 100000
end Go.Proofs.YtkkkfkopcfdmaaaGreatDoor.Q
namespace Go.Proofs.YtkkkfkopcfdmaaaGreatDoor.Q
open Go Go.Vc Go.RowKit Go.Proofs Go.Que
set_option maxRecDepth 100000
def Foot (g m : Nat) (s : Sl) : Nat → Prop := fun i => i = g ∨ i = m ∨ s.blk = some i
abbrev qcells (q : QS) (s : Sl) (m : Nat) : List Value := [.int .i64 q.room, .int .i64 q.lost, .slice s.a s.n s.c, .map (some m)]
def Ticks (kvs : List (Value × Value)) (l : List It) : Prop := (∀ c t, (cv c, tv t) ∈ kvs ↔ (t, c) ∈ l) ∧ ∀ e ∈ kvs, ∃ c t, e = (cv c, tv t)
structure QIs (w : World) (g m : Nat) (s : Sl) (q : QS) : Prop where
 row : Row w g (qcells q s m) tQueue
 own : OwnK 0 tItem 4 w s (q.l.map itv)
 map : ∃ kvs, MapIs GC w (some m) kvs ∧ Ticks kvs q.l
theorem QIs.no_row {w : World} {g m : Nat} {s : Sl} {q : QS} (h : QIs w g m s q) {b : Nat} {cs : List Value} {E : TypeId} (hb : Row w b cs E) (h1 : E ≠ tQueue) (h2 : E ≠ tItem) : ¬ Foot g m s b := by
 rintro (rfl | rfl | e)
 ·exact hb.ne h.row h1 rfl
 ·obtain ⟨kvs, hm, -⟩ := h.map
  exact hb.ne_map hm rfl
 ·obtain ⟨cs', hr⟩ := own_row h.own (by decide) e
  exact hb.ne hr h2 rfl
theorem QIs.no_own {w : World} {g m : Nat} {s : Sl} {q : QS} (h : QIs w g m s q) {B E k : Nat} {s' : Sl} {rows : List (List Value)} (ho : OwnK B E k w s' rows) (hk : 0 < k) (h1 : E ≠ tQueue) (h2 : E ≠ tItem) : ∀ b, s'.blk = some b → ¬ Foot g m s b := fun b hb => by
 obtain ⟨cs, hr⟩ := own_row ho hk hb
 exact h.no_row hr h1 h2
theorem QIs.lt {w : World} {g m : Nat} {s : Sl} {q : QS} (h : QIs w g m s q) : ∀ i, Foot g m s i → i < w.heap.size := by
 rintro i (rfl | rfl | e)
 ·exact h.row.lt
 ·obtain ⟨kvs, hm, -⟩ := h.map
  exact hm.lt
 ·exact (h.own.own.lt e).2
theorem QIs.keep {w w' : World} {g m : Nat} {s : Sl} {q : QS} (h : QIs w g m s q) {F : Nat → Prop} (hm : Mod F w w') (hn : ∀ i, Foot g m s i → ¬ F i) : QIs w' g m s q := by
 obtain ⟨kvs, h1, h2⟩ := h.map
 exact ⟨hm.row h.row (hn g (.inl rfl)), hm.ownK h.own fun b hb => hn b (.inr (.inr hb)), kvs, hm.map h1 (hn m (.inr (.inl rfl))), h2⟩
theorem QIs.ext {w w' : World} {g m : Nat} {s : Sl} {q : QS} (h : QIs w g m s q) (x : Ext w w') : QIs w' g m s q :=
 h.keep (F := fun _ => False) ⟨x.os, x.tape, x.output, x.size, fun i hi _ => x.heap hi⟩ fun _ _ hf => hf
theorem New_spec (room : Int) (w : World) : Calls Tryz.prog n_queue_New #[.int .i64 room] w fun e w' => ∃ g m, e = .returned (.pointer (some ⟨g, 0, none⟩)) ∧ QIs w' g m ⟨none, 0, 0⟩ ⟨min (max room 1) 4096, 0, []⟩ ∧ Ext w w' ∧ w.heap.size ≤ g ∧ w.heap.size ≤ m := by
 apply queue_New.vc
 intro w0 e0 w1 e1
 have hm : MapIs GC w0 (some w.heap.size) [] := by rw [e0]; exact MapIs.new
 have x1 : Ext w0 w1 := (Ext.rfl' _).of_alloc e1
 refine ⟨w0.heap.size, w.heap.size, rfl, ⟨?_, OwnK.nil, [], ?_, by simp [Ticks]⟩, ((Ext.rfl' _).of_alloc e0).tr x1, ?_, Nat.le_refl _⟩
 ·have : (min (max room 1) 4096) = (if 4096 < (if 1 > room then 1 else room) then 4096 else (if 1 > room then 1 else room)) := by
   split <;> split <;> omega
  rw [e1, this]
  exact Row.new w0 [_, _, _, _] _
 ·exact hm.same (x1.heap hm.lt)
 ·rw [e0]; simp
end Go.Proofs.YtkkkfkopcfdmaaaGreatDoor.Q
namespace Go.Proofs.YtkkkfkopcfdmaaaGreatDoor.Q
open Go Go.Vc Go.RowKit Go.Proofs Go.Que
set_option maxRecDepth 100000
end Go.Proofs.YtkkkfkopcfdmaaaGreatDoor.Q
namespace Go.Proofs.YtkkkfkopcfdmaaaGreatDoor.Q
open Go Go.Vc Go.RowKit Go.Proofs Go.Que
set_option maxRecDepth 100000
end Go.Proofs.YtkkkfkopcfdmaaaGreatDoor.Q
namespace Go.Proofs.YtkkkfkopcfdmaaaGreatDoor.Q
open Go Go.Vc Go.RowKit Go.Proofs Go.Que
set_option maxRecDepth 100000
end Go.Proofs.YtkkkfkopcfdmaaaGreatDoor.Q
