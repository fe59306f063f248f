import Derived.Test.YtfipllblcnahdaaDoorKA
set_option linter.all false
namespace Go.Proofs.YtfipllblcnahdaaDoor
open Go Go.Vc Go.RowKit Go.Proofs Go.Chk

theorem gHash_spec (s x z : Int) (w : World) : Calls Tryd.prog n_gen_Hash #[.int .i64 s, .int .i64 x, .int .i64 z] w fun e w' => e = .returned (.int .u64 (hash s x z)) ∧ w' = w := by
  apply gen_Hash.vc
  unfold gen_Hash.pre
  rw [sh29, sh32]
  exact ⟨rfl, rfl⟩
theorem rHash_spec (s x z : Int) (w : World) : Calls Tryd.prog n_ref10_Hash #[.int .i64 s, .int .i64 x, .int .i64 z] w fun e w' => e = .returned (.int .u64 (hash s x z)) ∧ w' = w := by
  apply ref10_Hash.vc
  unfold ref10_Hash.pre
  rw [dv29, dv32]
  exact ⟨rfl, rfl⟩
theorem cornerE (s x z : Int) : IntKind.wrap .i64 (Int.tmod (hash s x z) 9) = corner s x z := by
  rw [Int.tmod_eq_emod_of_nonneg (hash_in s x z)]
  exact wrap_in (by unfold inI; omega)
theorem gCorner_spec (s x z near : Int) (hn : 0 ≤ near ∧ near ≤ 64) {b : Nat} {w : World} (hb : Row w b [.int .i64 s] tInt) : Calls Tryd.prog n_gen_Ground_1 #[.int .i64 x, .int .i64 z, .int .i64 near, .pointer (some ⟨b, 0, none⟩)] w fun e w' => e = .returned (.int .i64 (corner s x z * near)) ∧ w' = w := by
  apply gen_Ground_1.vc
  refine ⟨s, by rw [hb.ld]; rfl, (gHash_spec s x z w).mono ?_⟩
  rintro e w1 ⟨rfl, rfl⟩
  refine ⟨_, rfl, ?_⟩
  rw [cornerE]
  have hc := corner_in s x z
  have h1 : 0 ≤ corner s x z * near := Int.mul_nonneg hc.1 hn.1
  have h2 : corner s x z * near ≤ 8 * 64 := Int.mul_le_mul hc.2 hn.2 hn.1 (by decide)
  rw [wrap_in (by unfold inI; omega)]
  exact ⟨rfl, rfl⟩
theorem gGround_spec (s x z : Int) (hx : inI x) (hz : inI z) (w : World) : Calls Tryd.prog n_gen_Ground #[.int .i64 s, .int .i64 x, .int .i64 z] w fun e w' => e = .returned (.int .i64 (ground s x z)) ∧ Ext w w' := by
  apply gen_Ground.vc
  intro w0 e0
  have x0 : Ext w w0 := (Ext.rfl' w).of_alloc e0
  have hb : Row w0 w.heap.size [.int .i64 s] tInt := by rw [e0]; exact Row.new w [_] _
  refine (cDiv_spec x 8 hx (by decide) w0).mono ?_
  rintro e w1 ⟨rfl, rfl⟩
  refine ⟨_, rfl, rfl, (cDiv_spec z 8 hz (by decide) w1).mono ?_⟩
  rintro e w1 ⟨rfl, rfl⟩
  refine ⟨_, rfl, rfl, (cMod_spec x 8 (by decide) (by decide) w1).mono ?_⟩
  rintro e w1 ⟨rfl, rfl⟩
  refine ⟨_, rfl, rfl, (cMod_spec z 8 (by decide) (by decide) w1).mono ?_⟩
  rintro e w1 ⟨rfl, rfl⟩
  refine ⟨_, rfl, rfl, ?_⟩
  have hdx : inI (x / 8 + 1) := by unfold inI at *; omega
  have hdz : inI (z / 8 + 1) := by unfold inI at *; omega
  have a := mul_bd (corner_in s (x / 8) (z / 8)) (u := 8 - x % 8) (v := 8 - z % 8) (by omega) (by omega)
  have b := mul_bd (corner_in s (x / 8 + 1) (z / 8)) (u := x % 8) (v := 8 - z % 8) (by omega) (by omega)
  have c := mul_bd (corner_in s (x / 8) (z / 8 + 1)) (u := 8 - x % 8) (v := z % 8) (by omega) (by omega)
  have d := mul_bd (corner_in s (x / 8 + 1) (z / 8 + 1)) (u := x % 8) (v := z % 8) (by omega) (by omega)
  have q1 : IntKind.wrap .i64 (8 - x % 8) = 8 - x % 8 := wrap_in (by unfold inI; omega)
  have q2 : IntKind.wrap .i64 (8 - z % 8) = 8 - z % 8 := wrap_in (by unfold inI; omega)
  rw [q1, q2, wrap_in hdx, wrap_in hdz, wrap_in (n := (8 - x % 8) * (8 - z % 8)) (by unfold inI; omega), wrap_in (n := x % 8 * (8 - z % 8)) (by unfold inI; omega), wrap_in (n := (8 - x % 8) * (z % 8)) (by unfold inI; omega), wrap_in (n := x % 8 * (z % 8)) (by unfold inI; omega)]
  refine (gCorner_spec s _ _ _ ⟨a.1, a.2.1⟩ hb).mono ?_
  rintro e w1 ⟨rfl, rfl⟩
  refine ⟨_, rfl, (gCorner_spec s _ _ _ ⟨b.1, b.2.1⟩ hb).mono ?_⟩
  rintro e w1 ⟨rfl, rfl⟩
  refine ⟨_, rfl, (gCorner_spec s _ _ _ ⟨c.1, c.2.1⟩ hb).mono ?_⟩
  rintro e w1 ⟨rfl, rfl⟩
  refine ⟨_, rfl, (gCorner_spec s _ _ _ ⟨d.1, d.2.1⟩ hb).mono ?_⟩
  rintro e w1 ⟨rfl, rfl⟩
  refine ⟨_, rfl, ?_, x0⟩
  have hg := ground_in s x z
  have e1 : ground s x z = 6 + (corner s (x / 8) (z / 8) * ((8 - x % 8) * (8 - z % 8)) + corner s (x / 8 + 1) (z / 8) * (x % 8 * (8 - z % 8)) + corner s (x / 8) (z / 8 + 1) * ((8 - x % 8) * (z % 8)) + corner s (x / 8 + 1) (z / 8 + 1) * (x % 8 * (z % 8))) / 64 := rfl
  generalize corner s (x / 8) (z / 8) * ((8 - x % 8) * (8 - z % 8)) = A at *
  generalize corner s (x / 8 + 1) (z / 8) * (x % 8 * (8 - z % 8)) = B at *
  generalize corner s (x / 8) (z / 8 + 1) * ((8 - x % 8) * (z % 8)) = C at *
  generalize corner s (x / 8 + 1) (z / 8 + 1) * (x % 8 * (z % 8)) = D at *
  rw [wrap_in (n := A + B) (by unfold inI; omega), wrap_in (n := A + B + C) (by unfold inI; omega), wrap_in (n := A + B + C + D) (by unfold inI; omega), Int.tdiv_eq_ediv_of_nonneg (by omega), wrap_in (n := (A + B + C + D) / 64) (by unfold inI; omega), ← e1, wrap_in (by unfold inI; omega)]
theorem gOf_spec (y g : Int) (hg : 6 ≤ g ∧ g ≤ 100) (w : World) : Calls Tryd.prog n_gen_of #[.int .i64 y, .int .i64 g] w fun e w' => e = .returned (.int .i64 (ofG y g)) ∧ w' = w := by
  apply gen_of.vc
  have q1 : IntKind.wrap .i64 (g - 3) = g - 3 := wrap_in (by unfold inI; omega)
  have q2 : IntKind.wrap .i64 (g - 1) = g - 1 := wrap_in (by unfold inI; omega)
  unfold gen_of.pre
  rw [q1, q2]
  have fin : ∀ {v : Int}, ofG y g = v → (Ending.returned (.int .i64 v) = .returned (.int .i64 (ofG y g)) ∧ w = w) := fun h => ⟨by rw [h], rfl⟩
  refine Br.mk (fun h1 => fin ?_) (fun h1 => Br.mk (fun h2 => fin ?_) (fun h2 => Br.mk (fun h3 => fin ?_) (fun h3 => Br.mk (fun h4 => fin ?_) (fun h4 => Br.mk (fun h5 => fin ?_) (fun h5 => Br.mk (fun h6 => Br.mk (fun h7 => fin ?_) (fun h7 => Br.mk (fun h8 => fin ?_) (fun h8 => Br.mk (fun h9 => fin ?_) (fun h9 => fin ?_)))) (fun h6 => Br.mk (fun h8 => fin ?_) (fun h8 => Br.mk (fun h9 => fin ?_) (fun h9 => fin ?_))))))))
  all_goals simp only [decide_eq_true_eq, decide_eq_false_iff_not, beq_iff_eq, beq_eq_false_iff_ne, ne_eq] at *
  all_goals unfold ofG
  all_goals (repeat' split) <;> omega
theorem rGround_spec (s x z : Int) (hx : inI x) (hz : inI z) (w : World) : Calls Tryd.prog n_ref10_Ground #[.int .i64 s, .int .i64 x, .int .i64 z] w fun e w' => e = .returned (.int .i64 (ground s x z)) ∧ Ext w w' := by
  apply ref10_Ground.vc
  have hdx : inI (x / 8 + 1) ∧ inI (x / 8) := by unfold inI at *; omega
  have hdz : inI (z / 8 + 1) ∧ inI (z / 8) := by unfold inI at *; omega
  have a := mul_bd (corner_in s (x / 8) (z / 8)) (u := 8 - x % 8) (v := 8 - z % 8) (by omega) (by omega)
  have b := mul_bd (corner_in s (x / 8 + 1) (z / 8)) (u := x % 8) (v := 8 - z % 8) (by omega) (by omega)
  have c := mul_bd (corner_in s (x / 8) (z / 8 + 1)) (u := 8 - x % 8) (v := z % 8) (by omega) (by omega)
  have d := mul_bd (corner_in s (x / 8 + 1) (z / 8 + 1)) (u := x % 8) (v := z % 8) (by omega) (by omega)
  have q1 : IntKind.wrap .i64 (8 - x % 8) = 8 - x % 8 := wrap_in (by unfold inI; omega)
  have q2 : IntKind.wrap .i64 (8 - z % 8) = 8 - z % 8 := wrap_in (by unfold inI; omega)
  have hg := ground_in s x z
  have e1 : ground s x z = 6 + (corner s (x / 8) (z / 8) * ((8 - x % 8) * (8 - z % 8)) + corner s (x / 8 + 1) (z / 8) * (x % 8 * (8 - z % 8)) + corner s (x / 8) (z / 8 + 1) * ((8 - x % 8) * (z % 8)) + corner s (x / 8 + 1) (z / 8 + 1) * (x % 8 * (z % 8))) / 64 := rfl
  have m1 : IntKind.wrap .i64 ((8 - x % 8) * (8 - z % 8)) = (8 - x % 8) * (8 - z % 8) := wrap_in (by unfold inI; omega)
  have m2 : IntKind.wrap .i64 (x % 8 * (8 - z % 8)) = x % 8 * (8 - z % 8) := wrap_in (by unfold inI; omega)
  have m3 : IntKind.wrap .i64 ((8 - x % 8) * (z % 8)) = (8 - x % 8) * (z % 8) := wrap_in (by unfold inI; omega)
  have m4 : IntKind.wrap .i64 (x % 8 * (z % 8)) = x % 8 * (z % 8) := wrap_in (by unfold inI; omega)
  have k1 := Int.mul_comm (corner s (x / 8) (z / 8)) ((8 - x % 8) * (8 - z % 8))
  have k2 := Int.mul_comm (corner s (x / 8 + 1) (z / 8)) (x % 8 * (8 - z % 8))
  have k3 := Int.mul_comm (corner s (x / 8) (z / 8 + 1)) ((8 - x % 8) * (z % 8))
  have k4 := Int.mul_comm (corner s (x / 8 + 1) (z / 8 + 1)) (x % 8 * (z % 8))
  refine ⟨fun n i t wr => w = wr ∧ ((i = 0 ∧ t = 0 ∧ n = 2) ∨ (i = 1 ∧ t = corner s (x / 8) (z / 8) * ((8 - x % 8) * (8 - z % 8)) + corner s (x / 8) (z / 8 + 1) * ((8 - x % 8) * (z % 8)) ∧ n = 1) ∨ (i = 2 ∧ t = corner s (x / 8) (z / 8) * ((8 - x % 8) * (8 - z % 8)) + corner s (x / 8) (z / 8 + 1) * ((8 - x % 8) * (z % 8)) + corner s (x / 8 + 1) (z / 8) * (x % 8 * (8 - z % 8)) + corner s (x / 8 + 1) (z / 8 + 1) * (x % 8 * (z % 8)) ∧ n = 0)), ⟨2, rfl, .inl ⟨rfl, rfl, rfl⟩⟩, ?_⟩
  rintro n us i t wr ⟨rfl, hi⟩
  refine Br.mk (fun hc => ?_) (fun hc => ?_)
  · simp only [decide_eq_true_eq] at hc
    refine ⟨fun n' k t' wr => w = wr ∧ ((k = 0 ∧ t' = t ∧ n' = 2) ∨ (k = 1 ∧ n' = 1 ∧ t' = t + (if i = 0 then corner s (x / 8) (z / 8) * ((8 - x % 8) * (8 - z % 8)) else corner s (x / 8 + 1) (z / 8) * (x % 8 * (8 - z % 8)))) ∨ (k = 2 ∧ n' = 0 ∧ t' = t + (if i = 0 then corner s (x / 8) (z / 8) * ((8 - x % 8) * (8 - z % 8)) else corner s (x / 8 + 1) (z / 8) * (x % 8 * (8 - z % 8))) + (if i = 0 then corner s (x / 8) (z / 8 + 1) * ((8 - x % 8) * (z % 8)) else corner s (x / 8 + 1) (z / 8 + 1) * (x % 8 * (z % 8))))), ⟨2, rfl, .inl ⟨rfl, rfl, rfl⟩⟩, ?_⟩
    rintro n2 us k t' wr ⟨rfl, hk⟩
    have hi01 : i = 0 ∨ i = 1 := by omega
    refine Br.mk (fun hc2 => ?_) (fun hc2 => ?_)
    · simp only [decide_eq_true_eq] at hc2
      refine (rMod_spec x 8 (by decide) (by decide) w).mono ?_
      rintro e w1 ⟨rfl, rfl⟩
      refine ⟨_, rfl, (rMod_spec z 8 (by decide) (by decide) w1).mono ?_⟩
      rintro e w1 ⟨rfl, rfl⟩
      refine ⟨_, rfl, ?_⟩
      rw [q1, q2, m1, m2, m3, m4]
      have hk01 : k = 0 ∨ k = 1 := by omega
      refine Br.mk (fun hb1 => Br.mk (fun hb2 => ?_) (fun hb2 => ?_)) (fun hb1 => Br.mk (fun hb2 => ?_) (fun hb2 => ?_))
      all_goals
        simp only [beq_iff_eq, beq_eq_false_iff_ne, ne_eq] at hb1 hb2
        refine (rDiv_spec x 8 hx (by decide) w1).mono ?_
        rintro e w1 ⟨rfl, rfl⟩
        refine ⟨_, rfl, (rDiv_spec z 8 hz (by decide) w1).mono ?_⟩
        rintro e w1 ⟨rfl, rfl⟩
        refine ⟨_, rfl, (rHash_spec _ _ _ w1).mono ?_⟩
        rintro e w1 ⟨rfl, rfl⟩
        refine ⟨_, rfl, ?_⟩
        rw [cornerE]
      · have hi0 : i = 0 := hb1
        have hk0 : k = 0 := hb2
        subst hi0; subst hk0
        rw [Int.add_zero, Int.add_zero, wrap_in hdx.2, wrap_in hdz.2, ← k1, wrap_in (n := corner s (x / 8) (z / 8) * ((8 - x % 8) * (8 - z % 8))) (by unfold inI; omega)]
        have ht : t' = 0 := by omega
        subst ht
        refine ⟨1, by omega, rfl, .inr (.inl ⟨by decide, rfl, ?_⟩)⟩
        rw [wrap_in (by unfold inI; omega), if_pos rfl]; omega
      · have hi0 : i = 0 := hb1
        have hk0 : k = 1 := by omega
        subst hi0; subst hk0
        rw [Int.add_zero, wrap_in hdx.2, wrap_in hdz.1, ← k3, wrap_in (n := corner s (x / 8) (z / 8 + 1) * ((8 - x % 8) * (z % 8))) (by unfold inI; omega)]
        rcases hk with hk | hk | hk
        · omega
        · obtain ⟨-, hn2, ht⟩ := hk
          rw [if_pos rfl] at ht
          have ht0 : t = 0 := by omega
          subst ht0
          refine ⟨0, by omega, rfl, .inr (.inr ⟨by decide, rfl, ?_⟩)⟩
          rw [wrap_in (by unfold inI; omega), if_pos rfl, if_pos rfl]; omega
        · omega
      · have hi0 : i = 1 := by omega
        have hk0 : k = 0 := hb2
        subst hi0; subst hk0
        rw [Int.add_zero, wrap_in hdx.1, wrap_in hdz.2, ← k2, wrap_in (n := corner s (x / 8 + 1) (z / 8) * (x % 8 * (8 - z % 8))) (by unfold inI; omega)]
        rcases hk with hk | hk | hk
        · obtain ⟨-, ht, hn2⟩ := hk
          refine ⟨1, by omega, rfl, .inr (.inl ⟨by decide, rfl, ?_⟩)⟩
          rw [wrap_in (by unfold inI; omega), if_neg (by decide)]; omega
        · omega
        · omega
      · have hi0 : i = 1 := by omega
        have hk0 : k = 1 := by omega
        subst hi0; subst hk0
        rw [wrap_in hdx.1, wrap_in hdz.1, ← k4, wrap_in (n := corner s (x / 8 + 1) (z / 8 + 1) * (x % 8 * (z % 8))) (by unfold inI; omega)]
        rcases hk with hk | hk | hk
        · omega
        · obtain ⟨-, hn2, ht⟩ := hk
          rw [if_neg (by decide)] at ht
          refine ⟨0, by omega, rfl, .inr (.inr ⟨by decide, rfl, ?_⟩)⟩
          rw [wrap_in (by unfold inI; omega), if_neg (by decide), if_neg (by decide)]; omega
        · omega
    · simp only [decide_eq_false_iff_not] at hc2
      rcases hk with hk | hk | hk
      · omega
      · omega
      · obtain ⟨-, hn2, ht⟩ := hk
        rcases hi01 with h | h
        · subst h
          rw [if_pos rfl, if_pos rfl] at ht
          refine ⟨1, by omega, rfl, .inr (.inl ⟨by decide, by omega, rfl⟩)⟩
        · subst h
          rw [if_neg (by decide), if_neg (by decide)] at ht
          refine ⟨0, by omega, rfl, .inr (.inr ⟨by decide, by omega, rfl⟩)⟩
  · simp only [decide_eq_false_iff_not] at hc
    rcases hi with hi | hi | hi
    · omega
    · omega
    · obtain ⟨-, ht, -⟩ := hi
      refine ⟨?_, Ext.rfl' _⟩
      have : t = corner s (x / 8) (z / 8) * ((8 - x % 8) * (8 - z % 8)) + corner s (x / 8 + 1) (z / 8) * (x % 8 * (8 - z % 8)) + corner s (x / 8) (z / 8 + 1) * ((8 - x % 8) * (z % 8)) + corner s (x / 8 + 1) (z / 8 + 1) * (x % 8 * (z % 8)) := by omega
      rw [← this] at e1
      rw [Int.tdiv_eq_ediv_of_nonneg (by omega), wrap_in (n := t / 64) (by unfold inI; omega), ← e1, wrap_in (by unfold inI; omega)]
theorem rBlock_spec (s : Int) (c : Ce) (hc : okC c) (w : World) : Calls Tryd.prog n_ref10_Block #[.int .i64 s, cev c] w fun e w' => e = .returned (.int .i64 (ofG c.2.1 (ground s c.1 c.2.2))) ∧ Ext w w' := by
  apply ref10_Block.vc
  intro w0 e0
  have x0 : Ext w w0 := (Ext.rfl' w).of_alloc e0
  have z0 : w0.heap.size = w.heap.size + 1 := by rw [e0]; simp
  refine (rGround_spec s c.1 c.2.2 hc.1 hc.2.2 w0).mono ?_
  rintro e w1 ⟨rfl, x1⟩
  refine ⟨_, rfl, x1.heap (by omega), ?_⟩
  have hg := ground_in s c.1 c.2.2
  generalize ground s c.1 c.2.2 = g at hg
  generalize c.2.1 = y
  have q1 : IntKind.wrap .i64 (g - 3) = g - 3 := wrap_in (by unfold inI; omega)
  have q2 : IntKind.wrap .i64 (g - 1) = g - 1 := wrap_in (by unfold inI; omega)
  rw [q1, q2]
  have fin : ∀ {v : Int}, ofG y g = v → (Ending.returned (.int .i64 v) = .returned (.int .i64 (ofG y g)) ∧ Ext w w1) := fun h => ⟨by rw [h], x0.tr x1⟩
  refine Br.mk (fun h1 => fin ?_) (fun h1 => Br.mk (fun h2 => fin ?_) (fun h2 => Br.mk (fun h3 => fin ?_) (fun h3 => Br.mk (fun h4 => fin ?_) (fun h4 => Br.mk (fun h5 => fin ?_) (fun h5 => Br.mk (fun h6 => Br.mk (fun h7 => fin ?_) (fun h7 => fin ?_)) (fun h6 => Br.mk (fun h9 => fin ?_) (fun h9 => fin ?_)))))))
  all_goals simp only [decide_eq_true_eq, decide_eq_false_iff_not, beq_iff_eq, beq_eq_false_iff_ne, ne_eq] at *
  all_goals unfold ofG
  all_goals (repeat' split) <;> omega
end Go.Proofs.YtfipllblcnahdaaDoor
