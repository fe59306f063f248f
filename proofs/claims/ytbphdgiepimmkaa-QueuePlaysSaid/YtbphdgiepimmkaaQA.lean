import Derived.Test.YtbphdgiepimmkaaG
import Derived.Test.YtbphdgiepimmkaaQLA
import Derived.Test.YtbphdgiepimmkaaQP
set_option linter.all false
namespace Go.Proofs.Ytbphdgiepimmkaa
open Go Go.Vc Go.RowKit Go.Proofs Go.Que

abbrev tCell : TypeId := 28
abbrev tItem : TypeId := 36
abbrev tQueue : TypeId := 54
/-- Cells as keys. -/
def GC (v : Value) : Prop := ∃ c : Cl, v = cv c
theorem cellKey : KeyOk Try.prog tCell GC := by
  refine ⟨?_, ?_, ?_⟩
  · rintro x y ⟨a, rfl⟩ ⟨b, rfl⟩
    refine ⟨a.1 == b.1 && (a.2.1 == b.2.1 && a.2.2 == b.2.2), by kernel_rfl, ?_⟩
    simp only [Bool.and_eq_true, beq_iff_eq]
    constructor
    · rintro ⟨h1, h2, h3⟩
      unfold cv; rw [h1, h2, h3]
    · intro h
      rw [cv_inj h]; simp
  · rintro x ⟨a, rfl⟩ b w
    kernel_rfl
  · rintro x ⟨a, rfl⟩
    simp [cv, Instr.sameBits]
theorem isNaN_spec (a : Int) (w : World) : Calls Try.prog n_cmp_isNaN_int #[.int .i64 a] w fun e w' => e = .returned (.bool false) ∧ w' = w := by
  apply cmp_isNaN_int.vc
  unfold cmp_isNaN_int.pre
  simp
theorem compare_spec (a b : Int) (w : World) : Calls Try.prog n_cmp_Compare_int #[.int .i64 a, .int .i64 b] w fun e w' => e = .returned (.int .i64 (if a < b then -1 else if b < a then 1 else 0)) ∧ w' = w := by
  apply cmp_Compare_int.vc
  refine (isNaN_spec a w).mono ?_
  rintro e w1 ⟨rfl, rfl⟩
  refine ⟨_, rfl, (isNaN_spec b w1).mono ?_⟩
  rintro e w2 ⟨rfl, rfl⟩
  refine ⟨_, rfl, Br.mk (fun h => by cases h) (fun _ => Br.mk (fun h => by cases h) (fun _ => Br.mk (fun h => ?_) (fun h => Br.mk (fun h2 => ?_) (fun h2 => ?_))))⟩
  · simp only [decide_eq_true_eq] at h
    rw [if_pos h]; exact ⟨rfl, rfl⟩
  · simp only [decide_eq_true_eq, decide_eq_false_iff_not] at h h2
    rw [if_neg h, if_pos h2]; exact ⟨rfl, rfl⟩
  · simp only [decide_eq_false_iff_not] at h h2
    rw [if_neg h, if_neg h2]; exact ⟨rfl, rfl⟩
/-- The first of two that is not 0. -/
theorem or2_spec (a b : Int) (g : Nat) (w : World) (hr : Row w g [.int .i64 a, .int .i64 b] 3) :
    Calls Try.prog n_cmp_Or_int #[.slice (some ⟨g, 0, none⟩) 2 2] w fun e w' => e = .returned (.int .i64 (if a = 0 then b else a)) ∧ w' = w := by
  apply (cmp_Or_int.vc (a0 := ⟨some ⟨g, 0, none⟩, 2, 2⟩))
  refine ⟨fun n x wr => wr = w ∧ ∃ k : Nat, x = k ∧ k + n = 2 ∧ (1 ≤ k → a = 0) ∧ (2 ≤ k → b = 0), ⟨2, rfl, 0, rfl, rfl, by omega, by omega⟩, ?_⟩
  rintro n us x wr ⟨rfl, k, rfl, hk, h1, h2⟩
  have hw := wrap_in (n := (k : Int) + 1) (by unfold inI; omega)
  rw [hw]
  refine Br.mk (fun h => ?_) (fun h => ?_) <;> simp only [decide_eq_true_eq, decide_eq_false_iff_not] at h
  · refine ⟨⟨rfl, by omega, by omega⟩, if k = 0 then a else b, ?_, Br.mk (fun h3 => ?_) (fun h3 => ?_)⟩
    · show ld wr (padd (some ⟨g, 0, none⟩) _) = _
      rw [padd_row, hr.ld]
      have : k = 0 ∨ k = 1 := by simp at h; omega
      rcases this with rfl | rfl <;> rfl
    · simp only [bne_iff_ne, ne_eq] at h3
      have : k = 0 ∨ k = 1 := by simp at h; omega
      rcases this with rfl | rfl
      · rw [if_pos rfl] at h3 ⊢
        rw [if_neg h3]; exact ⟨rfl, rfl⟩
      · rw [if_neg (show ¬((1 : Nat) = 0) by omega)] at h3 ⊢
        rw [if_pos (h1 (by omega))]; exact ⟨rfl, rfl⟩
    · simp only [bne_eq_false_iff_eq] at h3
      have : k = 0 ∨ k = 1 := by simp at h; omega
      rcases this with rfl | rfl
      · rw [if_pos rfl] at h3
        exact ⟨n - 1, by omega, rfl, 1, by omega, by omega, fun _ => h3, by omega⟩
      · rw [if_neg (show ¬((1 : Nat) = 0) by omega)] at h3
        exact ⟨n - 1, by omega, rfl, 2, by omega, by omega, fun _ => h1 (by omega), fun _ => h3⟩
  · have : k = 2 := by simp at h; omega
    subst this
    rw [if_pos (h1 (by omega)), h2 (by omega)]; exact ⟨rfl, rfl⟩
theorem push1_spec (x y : It) (w : World) : Calls Try.prog n_queue_Queue_push_1 #[.agg (itv x).toArray, .agg (itv y).toArray] w fun e w' => (∃ z : Int, e = .returned (.int .i64 z) ∧ (z < 0 ↔ x.1 ≤ y.1)) ∧ Ext w w' := by
  apply queue_Queue_push_1.vc
  intro w0 e0 w1 e1
  have x1 : Ext w w1 := by rw [e1, e0]; exact (Ext.al _ _).tr (Ext.al _ _)
  refine (compare_spec x.1 y.1 _).mono ?_
  intro e w2 hh
  obtain ⟨rfl, ew⟩ := hh
  have x2 : Ext w w2 := by rw [ew]; exact x1
  refine ⟨_, rfl, by rw [ew], by rw [ew], ?_⟩
  intro w4 e4
  have x4 : Ext w w4 := x2.of_alloc e4
  have hrow : Row w4 w2.heap.size [.int .i64 (if x.1 < y.1 then -1 else if y.1 < x.1 then 1 else 0), .int .i64 (-1)] 3 := by
    rw [e4]; exact Row.new w2 [_, _] _
  refine (or2_spec _ _ _ _ hrow).mono ?_
  intro e w5 hh
  obtain ⟨rfl, ew5⟩ := hh
  refine ⟨_, rfl, by rw [ew5], by rw [ew5], ⟨_, rfl, ?_⟩, by rw [ew5]; exact x4⟩
  by_cases h1 : x.1 < y.1
  · rw [if_pos h1]; simp; omega
  · by_cases h2 : y.1 < x.1
    · rw [if_neg h1, if_pos h2]; simp; omega
    · rw [if_neg h1, if_neg h2]; simp; omega
end Go.Proofs.Ytbphdgiepimmkaa
