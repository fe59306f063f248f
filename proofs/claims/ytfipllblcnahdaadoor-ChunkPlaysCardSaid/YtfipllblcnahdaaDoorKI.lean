import Derived.Test.YtfipllblcnahdaaDoorKH
set_option linter.all false
namespace Go.Proofs.YtfipllblcnahdaaDoor
open Go Go.Vc Go.RowKit Go.Proofs Go.Chk Go.Runs

abbrev tChunk : TypeId := 55
structure KIs (w : World) (g : Nat) (s : Sl) (p : Po) (C : List Int) : Prop where
  row : Row w g [.int .i64 p.1, .int .i64 p.2, .slice s.a s.n s.c] tChunk
  own : OwR 0 w s (ofC C)
  len : C.length = 8192
  may : ∀ b ∈ C, bMay b = true
theorem KIs.keep {w w' : World} {g : Nat} {s : Sl} {p : Po} {C : List Int} (h : KIs w g s p C) {F : Nat → Prop} (hm : Mod F w w') (hg : ¬ F g) (hs : ∀ b, s.blk = some b → ¬ F b) : KIs w' g s p C :=
  ⟨hm.row h.row hg, hm.ownK h.own hs, h.len, h.may⟩
theorem KIs.ext {w w' : World} {g : Nat} {s : Sl} {p : Po} {C : List Int} (h : KIs w g s p C) (x : Ext w w') : KIs w' g s p C := ⟨h.row.ext x, OwnK.ext h.own x, h.len, h.may⟩
theorem KIs.ne {w : World} {g : Nat} {s : Sl} {p : Po} {C : List Int} (h : KIs w g s p C) {g' : Nat} {cs : List Value} (hr : Row w g' cs tChunk) : ∀ b, s.blk = some b → b ≠ g' := fun b hb e => by
  obtain ⟨cs', hr'⟩ := own_row h.own (by decide) hb
  exact hr'.ne hr (by decide) e
theorem KIs.bd {w : World} {g : Nat} {s : Sl} {p : Po} {C : List Int} (h : KIs w g s p C) : Bd C.length := by rw [h.len]; decide
def inK (p : Po) (c : Ce) : Bool := decide (0 ≤ c.2.1) && decide (c.2.1 < 32) && (pos c == p)
theorem inK_iff (p : Po) (c : Ce) : inK p c = true ↔ inY c ∧ pos c = p := by
  unfold inK inY
  simp only [Bool.and_eq_true, decide_eq_true_eq, beq_iff_eq]
def kAt (p : Po) (C : List Int) (c : Ce) : Int := if inK p c then atC C (idx c) else 0
def kSet (p : Po) (C : List Int) (c : Ce) (b : Int) : List Int × Int := if inK p c = false then (C, 5) else if bMay b = false then (C, 1) else (C.set (idx c).toNat b, 0)
theorem index_spec (p : Po) (c : Ce) (hc : okC c) (w : World) : Calls Tryd.prog n_chunk_place_index #[pv p, cev c] w fun e w' => (∃ i, e = .returned (.tuple #[.int .i64 i, .bool (inK p c)]) ∧ (inK p c = true → i = idx c)) ∧ Ext w w' := by
  apply chunk_place_index.vc
  intro w0 e0 w1 e1
  have z0 : w0.heap.size = w.heap.size + 1 := by rw [e0]; simp
  have z1 : w1.heap.size = w.heap.size + 2 := by rw [e1]; simp [z0]
  have x1 : Ext w w1 := ((Ext.rfl' w).of_alloc e0).of_alloc e1
  have hb : Row w1 w.heap.size [.int .i64 p.1, .int .i64 p.2] 53 := (by rw [e0]; exact Row.new w [_, _] _ : Row w0 w.heap.size [.int .i64 p.1, .int .i64 p.2] 53).ext ((Ext.rfl' _).of_alloc e1)
  refine (cIndex_spec c w1).mono ?_
  rintro e w2 ⟨⟨i, b, rfl, hi⟩, x2⟩
  have z2 := x2.size
  refine ⟨i, b, rfl, x2.heap (by omega), x2.heap (by omega), Br.mk (fun hbb => ?_) (fun hbb => ?_)⟩
  · rcases hi with ⟨-, hy, rfl⟩ | ⟨h, -⟩
    · refine (cChunk_spec c hc w2.drew).mono ?_
      rintro e w5 ⟨rfl, x5⟩
      refine ⟨_, _, rfl, x5.heap (show w.heap.size < w2.heap.size by omega), x5.heap (show w0.heap.size < w2.heap.size by omega), ((hb.ext x2).ext (Ext.dr _) |>.ext x5).loadL (fun j hj => by rw [Nat.zero_add]), ?_, (x1.tr x2).tr ((Ext.dr _).tr x5)⟩
      refine ⟨_, ?_, fun _ => rfl⟩
      have : inK p c = (((pos c).1 == p.1) && ((pos c).2 == p.2)) := by
        unfold inK
        unfold inY at hy
        rw [decide_eq_true hy.1, decide_eq_true hy.2]
        rfl
      rw [this]
    · rw [h] at hbb; cases hbb
  · rcases hi with ⟨h, -⟩ | ⟨-, hy, rfl⟩
    · rw [h] at hbb; cases hbb
    · have : inK p c = false := by
        cases hk : inK p c with
        | false => rfl
        | true => exact absurd ((inK_iff p c).1 hk).1 hy
      rw [this]
      exact ⟨⟨_, rfl, fun h => by cases h⟩, (x1.tr x2).drew⟩
theorem ofG_may (y g : Int) : bMay (ofG y g) = true := by
  rcases ofG_cases y g with h | h | h | h | h <;> rw [h] <;> decide +kernel
theorem made_may (seed : Int) (p : Po) : ∀ b ∈ made seed p, bMay b = true := by
  intro b hb
  unfold made at hb
  obtain ⟨i, _, rfl⟩ := List.mem_map.1 hb
  exact ofG_may _ _
theorem Make_spec (seed : Int) (p : Po) (hp : okP p) (w : World) : Calls Tryd.prog n_chunk_Make #[.int .i64 seed, pv p] w fun e w' => ∃ g s, e = .returned (.pointer (some ⟨g, 0, none⟩)) ∧ KIs w' g s p (made seed p) ∧ Ext w w' ∧ w.heap.size ≤ g := by
  apply chunk_Make.vc
  intro w0 e0
  have x0 : Ext w w0 := (Ext.rfl' w).of_alloc e0
  have z0 : w0.heap.size = w.heap.size + 1 := by rw [e0]; simp
  have hb : Row w0 w.heap.size [.int .i64 p.1, .int .i64 p.2] tPo := by rw [e0]; exact Row.new w [_, _] _
  have fin : ∀ {w1 w3 : World} {s : Sl}, Ext w0.drew w1 → OwR w0.drew.heap.size w1 s (ofC (made seed p)) → w3 = w1.alloc (.cells #[.int .i64 p.1, .int .i64 p.2, .slice s.a s.n s.c] 55) → KIs w3 w1.heap.size s p (made seed p) ∧ Ext w w3 ∧ w.heap.size ≤ w1.heap.size := fun {w1 w3 s} x1 ho e3 => by
    have x3 : Ext w1 w3 := (Ext.rfl' _).of_alloc e3
    refine ⟨⟨by rw [e3]; exact Row.new w1 [_, _, _] _, (OwnK.low ho (Nat.zero_le _)).ext x3, made_len _ _, made_may _ _⟩, ((x0.drew).tr x1).tr x3, ?_⟩
    have := (x0.drew.tr x1).size
    omega
  refine ⟨(gChunk_spec seed p hp w0.drew).mono ?_, (gChunk_spec seed p hp w0.drew).mono ?_⟩
  · rintro e w1 ⟨s, rfl, ho, x1⟩
    refine ⟨s, rfl, x1.heap (show w.heap.size < w0.heap.size by omega), fun w3 e3 => ⟨_, s, rfl, fin x1 ho e3⟩⟩
  · rintro e w1 ⟨s, rfl, ho, x1⟩
    refine ⟨s, rfl, x1.heap (show w.heap.size < w0.heap.size by omega), ((hb.ext (Ext.dr _)).ext x1).loadL (fun j hj => by rw [Nat.zero_add]), fun w3 e3 => ⟨_, s, rfl, fin x1 ho e3⟩⟩
end Go.Proofs.YtfipllblcnahdaaDoor
