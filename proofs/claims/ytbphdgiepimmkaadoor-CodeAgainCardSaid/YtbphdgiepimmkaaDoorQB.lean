import Derived.Test.YtbphdgiepimmkaaDoorQA
set_option linter.all false
namespace Go.Proofs.YtbphdgiepimmkaaDoor
open Go Go.Vc Go.RowKit Go.Proofs Go.Runs Go.Code

theorem drop_cons {α : Type} {l : List α} {k : Nat} {c : α} (h : l[k]? = some c) : l.drop k = c :: l.drop (k + 1) := by
  obtain ⟨h1, h2⟩ := List.getElem?_eq_some_iff.1 h
  rw [List.drop_eq_getElem_cons h1, h2]
theorem code_Digits_spec (s : Sl) (b : List Int) (w : World) (hs : RdY w s b) (hb : InY b) (hc : s.n ≤ s.c) :
    Calls Tryd.prog n_code_Digits #[.slice s.a s.n s.c] w fun e w' => e = .returned (.tuple #[.int .i64 (digB b).1, .int .i64 (digB b).2.1, .int .i64 (digB b).2.2]) ∧ w' = w := by
  have hn := RdY.len hs
  apply code_Digits.vc
  have em : (if 3 < ((s.n : Nat) : Int) then 3 else ((s.n : Nat) : Int)) = ((min 3 s.n : Nat) : Int) := by split <;> omega
  unfold code_Digits.pre
  rw [em]
  refine ⟨by omega, by omega, ?_⟩
  refine ⟨fun n x y wr => ∃ k : Nat, x = k ∧ k + n = min 3 s.n ∧ wr = w ∧ 0 ≤ y ∧ y < 128 ^ k ∧ digG (3 - k) k y (b.drop k) = digB b, ⟨min 3 s.n, 0, rfl, by omega, rfl, by omega, by omega, rfl⟩, ?_⟩
  rintro n us x y wr ⟨k, rfl, hk, rfl, y0, y1, heq⟩
  have hw := wrap_in (n := (k : Int) + 1) (by unfold inI; omega)
  refine Br.mk (fun h => ?_) (fun h => ?_) <;> simp only [decide_eq_true_eq, decide_eq_false_iff_not] at h
  · obtain ⟨c, hcb⟩ := get_lt (l := b) (i := k) (by omega)
    have hci := hb c (List.mem_of_getElem? hcb)
    rw [drop_cons hcb, show 3 - k = (2 - k) + 1 from by omega, digStep] at heq
    have hin := RdY.inB hs (i := k) (by omega)
    obtain ⟨o1, o2⟩ := orStep k (by omega) y c y0 y1 hci.1 hci.2
    have hp := pow_step k y c y1
    have hp0 : 0 ≤ (128 : Int) ^ k := Int.pow_nonneg (by omega)
    have hm0 : 0 ≤ c % 128 * 128 ^ k := Int.mul_nonneg (by omega) hp0
    refine ⟨⟨?_, by omega, by omega⟩, c, ?_, ?_⟩
    · have := hin.1
      unfold slBase
      split
      · exact this
      · rw [Option.isSome_map]; exact this
    · rw [padd_slBase]; exact RdY.c0 hs hcb
    · rw [o1, hw]
      refine AndL_ng.2 ⟨o2, ?_⟩
      refine Br.mk (fun h1 => ?_) (fun h1 => ?_) <;> simp only [decide_eq_true_eq, decide_eq_false_iff_not] at h1
      · rw [if_pos h1] at heq
        exact ⟨n - 1, by omega, k + 1, by omega, by omega, rfl, by omega, hp, by rw [show 3 - (k + 1) = 2 - k from by omega]; exact heq⟩
      · rw [if_neg h1] at heq
        refine Br.mk (fun h2 => Br.mk (fun h3 => ?_) (fun h3 => Br.mk (fun h4 => ?_) (fun h4 => ?_))) (fun h2 => Br.mk (fun h4 => ?_) (fun h4 => ?_)) <;> simp only [decide_eq_true_eq, decide_eq_false_iff_not, beq_iff_eq, beq_eq_false_iff_ne] at *
        · rw [if_pos (.inl ⟨h2, by omega⟩)] at heq
          exact ⟨by rw [← heq], by first | rfl | trivial⟩
        · rw [if_pos (.inr h4)] at heq
          exact ⟨by rw [← heq], by first | rfl | trivial⟩
        · rw [if_neg (by omega)] at heq
          exact ⟨by rw [← heq], by first | rfl | trivial⟩
        · rw [if_pos (.inr h4)] at heq
          exact ⟨by rw [← heq], by first | rfl | trivial⟩
        · rw [if_neg (by omega)] at heq
          exact ⟨by rw [← heq], by first | rfl | trivial⟩
  · have hkm : k = min 3 s.n := by omega
    refine Br.mk (fun h2 => ?_) (fun h2 => ?_) <;> simp only [decide_eq_true_eq, decide_eq_false_iff_not] at h2
    · have : b.drop k = [] := List.drop_eq_nil_of_le (by omega)
      rw [this, show 3 - k = (2 - k) + 1 from by omega] at heq
      exact ⟨by rw [← heq]; rfl, by first | rfl | trivial⟩
    · rw [show 3 - k = 0 from by omega] at heq
      exact ⟨by rw [← heq]; rfl, by first | rfl | trivial⟩
theorem ref06_Digits_spec (s : Sl) (b : List Int) (w : World) (hs : RdY w s b) (hb : InY b) :
    Calls Tryd.prog n_ref06_Digits #[.slice s.a s.n s.c] w fun e w' => e = .returned (.tuple #[.int .i64 (digB b).1, .int .i64 (digB b).2.1, .int .i64 (digB b).2.2]) ∧ w' = w := by
  have hn := RdY.len hs
  apply ref06_Digits.vc
  refine ⟨fun n x y z wr => ∃ k : Nat, x = k ∧ k + n = 3 ∧ wr = w ∧ 0 ≤ y ∧ y < 128 ^ k ∧ z = 128 ^ k ∧ digG (3 - k) k y (b.drop k) = digB b, ⟨3, 0, rfl, by omega, rfl, by omega, by omega, rfl, rfl⟩, ?_⟩
  rintro n us x y z wr ⟨k, rfl, hk, rfl, y0, y1, rfl, heq⟩
  have hw := wrap_in (n := (k : Int) + 1) (by unfold inI; omega)
  refine Br.mk (fun h => Br.mk (fun h0 => ?_) (fun h0 => ?_)) (fun h => ?_) <;> simp only [decide_eq_true_eq, decide_eq_false_iff_not] at *
  · have : b.drop k = [] := List.drop_eq_nil_of_le (by omega)
    rw [this, show 3 - k = (2 - k) + 1 from by omega] at heq
    exact ⟨by rw [← heq]; rfl, by first | rfl | trivial⟩
  · obtain ⟨c, hcb⟩ := get_lt (l := b) (i := k) (by omega)
    have hci := hb c (List.mem_of_getElem? hcb)
    rw [drop_cons hcb, show 3 - k = (2 - k) + 1 from by omega, digStep] at heq
    have hin := RdY.inB hs (i := k) (by omega)
    have hp := pow_step k y c y1
    have hp0 : 1 ≤ (128 : Int) ^ k ∧ (128 : Int) ^ k ≤ 16384 := by
      have : k = 0 ∨ k = 1 ∨ k = 2 := by omega
      rcases this with rfl | rfl | rfl <;> decide
    have hm0 : 0 ≤ c % 128 * 128 ^ k := Int.mul_nonneg (by omega) (by omega)
    have hp2 : (128 : Int) ^ (k + 1) ≤ 2097152 := by rw [Int.pow_succ]; omega
    have w1 := wrap_in (n := c) (by unfold inI; omega)
    have htm : Int.tmod c 128 = c % 128 := Int.tmod_eq_emod_of_nonneg hci.1
    have w2 := wrap_in (n := c % 128 * 128 ^ k) (by unfold inI; omega)
    have w3 := wrap_in (n := y + c % 128 * 128 ^ k) (by unfold inI; omega)
    have w4 := wrap_in (n := (128 : Int) ^ k * 128) (by unfold inI; omega)
    refine ⟨hin, c, RdY.c0 hs hcb, ?_⟩
    rw [w1, htm, w2, w3, hw, w4]
    refine Br.mk (fun h1 => ?_) (fun h1 => ?_) <;> simp only [decide_eq_true_eq, decide_eq_false_iff_not] at h1
    · rw [if_pos h1] at heq
      exact ⟨n - 1, by omega, k + 1, by omega, by omega, (by first | rfl | trivial), by omega, hp, (Int.pow_succ _ _).symm, by rw [show 3 - (k + 1) = 2 - k from by omega]; exact heq⟩
    · rw [if_neg h1] at heq
      refine Br.mk (fun h2 => Br.mk (fun h3 => ?_) (fun h3 => Br.mk (fun h4 => ?_) (fun h4 => ?_))) (fun h2 => Br.mk (fun h4 => ?_) (fun h4 => ?_)) <;> simp only [decide_eq_true_eq, decide_eq_false_iff_not, beq_iff_eq, beq_eq_false_iff_ne] at *
      · rw [if_pos (.inl ⟨h2, by omega⟩)] at heq
        exact ⟨by rw [← heq], by first | rfl | trivial⟩
      · rw [if_pos (.inr h4)] at heq
        exact ⟨by rw [← heq], by first | rfl | trivial⟩
      · rw [if_neg (by omega)] at heq
        exact ⟨by rw [← heq], by first | rfl | trivial⟩
      · rw [if_pos (.inr h4)] at heq
        exact ⟨by rw [← heq], by first | rfl | trivial⟩
      · rw [if_neg (by omega)] at heq
        exact ⟨by rw [← heq], by first | rfl | trivial⟩
  · rw [show 3 - k = 0 from by omega] at heq
    exact ⟨by rw [← heq]; rfl, by first | rfl | trivial⟩
end Go.Proofs.YtbphdgiepimmkaaDoor
