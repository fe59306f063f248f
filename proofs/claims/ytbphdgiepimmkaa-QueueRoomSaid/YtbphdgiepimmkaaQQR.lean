import Derived.Test.YtbphdgiepimmkaaQO
set_option linter.all false
namespace Go.Proofs.Ytbphdgiepimmkaa
open Go Go.Vc Go.RowKit Go.Proofs Go.Que

theorem rq_qok {r : Int} (hr : 1 ≤ r ∧ r ≤ 4096) : ∀ i : Nat, QOk (rq r i)
  | 0 => by
    have e : rq r 0 = ⟨r, 0, []⟩ := by unfold rq; congr 1; omega
    rw [e]; exact QOk.empty hr
  | i + 1 => by
    have := (rq_qok hr i).add (0, 0, (i : Int)) (-(i : Int))
    rw [rq_add r hr.1 i] at this; exact this
theorem QueueRoom_law (a n : Int) (ha : inI a) (hn : inI n) (w : World) : Calls Try.prog n_law17_QueueRoom #[.int .i64 a, .int .i64 n] w fun e w' => e = .returned (.bool true) ∧ Ext w w' := by
  apply law17_QueueRoom.vc
  refine (around_spec n 81 w hn (by decide) (by unfold inI; omega)).mono ?_
  rintro e w0 ⟨rfl, rfl⟩
  refine ⟨_, rfl, (New_spec _ w0).mono ?_⟩
  have hbd := around_bd n 81 (by decide)
  generalize around n 81 = m at hbd
  obtain ⟨k, rfl⟩ := Int.eq_ofNat_of_zero_le hbd.1
  rintro e w2 ⟨g, mm, rfl, h0, x0, hg, hm⟩
  have hr : ∃ r : Int, r = (if 1 > (if 50 < a then 50 else a) then 1 else (if 50 < a then 50 else a)) ∧ 1 ≤ r ∧ r ≤ 50 := ⟨_, rfl, by split <;> split <;> omega, by split <;> split <;> omega⟩
  obtain ⟨r, hre, hr1, hr50⟩ := hr
  have hq0 : (⟨min (max (if 50 < a then 50 else a) 1) 4096, 0, []⟩ : QS) = rq r 0 := by
    unfold rq
    have : min (max (if 50 < a then 50 else a) 1) 4096 = r := by rw [hre]; split <;> split <;> omega
    rw [this]
    congr 1; omega
  rw [hq0] at h0
  refine ⟨_, rfl, Br.mk (fun h => by cases h) (fun _ => ?_)⟩
  rw [← hre]
  refine ⟨fun b x wr => ∃ i : Nat, x = i ∧ i + b = k ∧ ∃ s, QIs wr g mm s (rq r i) ∧ Ext w0 wr ∧ ∀ i, Foot g mm s i → w0.heap.size ≤ i, ⟨k, 0, rfl, by omega, _, h0, x0, Foot.none hg hm⟩, ?_⟩
  rintro b us x wr ⟨i, rfl, hi, s, hs, xr, fr⟩
  have hok := rq_qok ⟨hr1, by omega⟩ i
  refine Br.mk (fun hc => ?_) (fun hc => ?_)
  · simp only [decide_eq_true_eq] at hc
    have hw : IntKind.wrap .i64 (0 - (i : Int)) = -(i : Int) := by rw [wrap_in (by unfold inI; omega)]; omega
    have hwi : IntKind.wrap .i64 ((i : Int) + 1) = ((i + 1 : Nat) : Int) := by rw [wrap_in (by unfold inI; omega)]; omega
    rw [hw, hwi]
    refine (Add_spec hs hok ⟨by show 0 ≤ max ((i : Int) - r) 0; omega, by show max ((i : Int) - r) 0 ≤ _; omega⟩ (0, 0, (i : Int)) (-(i : Int))).mono ?_
    rintro e w10 ⟨rfl, s', h', t'⟩
    obtain ⟨x', f'⟩ := t'.fresh xr fr
    rw [rq_add r hr1 i] at h' ⊢
    refine ⟨_, rfl, Br.mk (fun hb => by simp at hb) (fun _ => ⟨b - 1, by omega, i + 1, rfl, by omega, s', h', x', f'⟩)⟩
  · simp only [decide_eq_false_iff_not] at hc
    have hik : i = k := by omega
    subst hik
    refine (Next_spec hs).mono ?_
    rintro e w12 ⟨rfl, x12⟩
    refine ⟨_, _, _, _, _, rfl, ?_⟩
    intro w18 e18 w19 e19
    have x19 : Ext w12 w19 := ((Ext.rfl' _).of_alloc e18).of_setRow e19 (Nat.le_refl _)
    have z19 : w19.heap.size = w12.heap.size + 1 := by rw [e19, setRow_size, e18]; simp
    have h19 := (hs.ext x12).ext x19
    obtain ⟨hd1, hd2⟩ := rq_head r hr1 i
    refine (Len_spec h19).mono ?_
    rintro e w20 ⟨rfl, x20⟩
    refine ⟨_, rfl, x20.heap (by omega), Br.mk (fun hb => ?_) (fun hb => ?_)⟩
    · refine (Lost_spec (h19.ext x20)).mono ?_
      rintro e w22 ⟨rfl, x22⟩
      have z20 := x20.size
      have z22 := x22.size
      refine ⟨_, rfl, x22.heap (by omega), Br.mk (fun hb2 => Br.mk (fun hb3 => Br.mk (fun hb4 => ?_) (fun hb4 => Br.mk (fun hb5 => ?_) (fun hb5 => ?_))) (fun hb3 => ?_)) (fun hb2 => ?_)⟩
      · refine (lives_spec w22).mono ?_
        rintro e w24 ⟨rfl, x24⟩
        exact ⟨_, rfl, x24.heap (by omega), rfl, ((((xr.tr x12).tr x19).tr x20).tr x22).tr x24⟩
      · refine (lives_spec w22).mono ?_
        rintro e w24 ⟨rfl, x24⟩
        exact ⟨_, rfl, x24.heap (by omega), rfl, ((((xr.tr x12).tr x19).tr x20).tr x22).tr x24⟩
      · exfalso
        rw [hd1] at hb4
        have hpos : 0 < i := by
          rcases Nat.eq_zero_or_pos i with h | h
          · subst h; simp at hb4
          · exact h
        have := hd2 hpos
        rw [wrap_in (by unfold inI; split <;> omega)] at hb5
        simp only [beq_eq_false_iff_ne, ne_eq] at hb5
        exact hb5 (this.trans (by split <;> omega))
      · exfalso
        rw [hd1] at hb3
        simp at hb3
        omega
      · exfalso
        rw [wrap_in (by unfold inI; omega)] at hb2
        simp only [beq_eq_false_iff_ne, ne_eq] at hb2
        exact hb2 (by show max ((i : Int) - r) 0 = _; split <;> omega)
    · exfalso
      rw [rq_len] at hb
      simp only [beq_eq_false_iff_ne, ne_eq] at hb
      exact hb (by split <;> omega)
end Go.Proofs.Ytbphdgiepimmkaa
