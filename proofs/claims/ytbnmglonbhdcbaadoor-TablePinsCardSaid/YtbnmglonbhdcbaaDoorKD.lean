import Derived.Test.YtbnmglonbhdcbaaDoorKB
import Derived.Test.YtbnmglonbhdcbaaDoorGA
set_option linter.all false
namespace Go.Proofs.YtbnmglonbhdcbaaDoor
open Go Go.Vc Go.RowKit Go.Proofs Go.Chk Go.Runs Go.Code

theorem ld_out {seed limit : Int} {l : List En} {p : Po} : (ldE seed limit l p).2 = 5 ↔ ¬ inT p := by
  unfold ldE
  by_cases h : inT p
  · rw [if_neg (by simpa using h)]
    refine ⟨fun e => ?_, fun hn => absurd h hn⟩
    exfalso
    split at e
    · cases e
    · split at e
      · unfold roomE at e
        split at e
        · cases e
        · split at e <;> cases e
      · cases e
  · rw [if_pos h]
    exact ⟨fun _ => h, fun _ => rfl⟩
theorem TableIds_law (p q : Po) (w : World) : Calls Tryd.prog n_law12_TableIds #[pv p, pv q] w fun e w' => e = .returned (.bool true) ∧ Ext w w' := by
  apply law12_TableIds.vc
  intro w0 e0 w1 e1
  have z0 : w0.heap.size = w.heap.size + 1 := by rw [e0]; simp
  have z1 : w1.heap.size = w.heap.size + 2 := by rw [e1]; simp [z0]
  have x1 : Ext w w1 := ((Ext.rfl' w).of_alloc e0).of_alloc e1
  have ha0 : Row w1 w.heap.size [.int .i64 p.1, .int .i64 p.2] tPo := (by rw [e0]; exact Row.new w [_, _] _ : Row w0 w.heap.size [.int .i64 p.1, .int .i64 p.2] tPo).ext ((Ext.rfl' _).of_alloc e1)
  have ha1 : Row w1 w0.heap.size [.int .i64 q.1, .int .i64 q.2] tPo := by rw [e1]; exact Row.new w0 [_, _] _
  clear e0 e1
  refine (Id_spec p w1).mono ?_
  rintro e w2 ⟨rfl, x2⟩
  have z2 := x2.size
  refine ⟨_, _, rfl, x2.heap (by omega), x2.heap (by omega), (Id_spec q w2).mono ?_⟩
  rintro e w5 ⟨rfl, x5⟩
  have z5 := x5.size
  refine ⟨_, _, rfl, x5.heap (by omega), x5.heap (by omega), (rId_spec p w5).mono ?_⟩
  rintro e w8 ⟨rfl, x8⟩
  have z8 := x8.size
  have x18 := x2.tr (x5.tr x8)
  have hb0 := ha0.ext x18
  have hb1 := ha1.ext x18
  have x08 := x1.tr x18
  have hpos : (decide (inT p) == decide (idK p > 0)) = true := by
    by_cases hin : inT p
    · have := idK_pos hin
      rw [decide_eq_true hin, decide_eq_true (by omega)]; rfl
    · rw [decide_eq_false hin, idK_out hin]; rfl
  have hle : ¬ idK p > 1099511627776 := by
    by_cases hin : inT p
    · have := idK_pos hin; omega
    · rw [idK_out hin]; omega
  refine ⟨_, rfl, x8.heap (by omega), x8.heap (by omega), nope (by simp) (nope (by rw [hpos]; rfl) (nope (decide_eq_false hle) (Br.mk (fun h1 => Br.mk (fun h2 => nope ?_ ?_) (fun h2 => ?_)) (fun h1 => ?_))))⟩
  · simp only [decide_eq_true_eq] at h1 h2
    have := idK_inj h1 h2
    by_cases e : p = q
    · subst e; simp
    · have hne : ¬ idK p = idK q := fun h => e (this.1 h)
      have hpq : (p.1 == q.1 && p.2 == q.2) = false := by
        rw [Bool.eq_false_iff]
        intro h
        simp only [Bool.and_eq_true, beq_iff_eq] at h
        exact e (Prod.ext h.1 h.2)
      rw [hpq, beq_eq_false_iff_ne.2 hne]; rfl
  · (
      refine (tiNew_spec 0 1 0 w8).mono ?_
      rintro e w10 hh
      obtain ⟨t, rfl, h0⟩ := hh
      have xn := h0.x
      have zn := xn.size
      rw [lim1] at h0
      refine ⟨_, rfl, xn.heap (by omega), xn.heap (by omega), Br.mk (fun h => by cases h) (fun _ => ?_)⟩
      refine (tiLoad_spec h0 (.inl (by simp)) p).mono ?_
      rintro e w12 hh
      obtain ⟨rfl, h2, kp⟩ := hh
      have z2 := h2.x.size
      have hk := h2.x
      refine ⟨_, rfl, kp _ _ (hb0.ext xn), kp _ _ (hb1.ext xn), yes ?_ ?_⟩
      · by_cases hin : inT p
        · have : (ldE 0 1 [] p).2 ≠ 5 := fun e => ld_out.1 e hin
          rw [decide_eq_true hin, beq_eq_false_iff_ne.2 this]; rfl
        · rw [decide_eq_false hin, ld_out.2 hin]; rfl
      · refine (lives12_spec w12).mono ?_
        rintro e w14 hh
        obtain ⟨rfl, x14⟩ := hh
        have r0 := kp.row (hb0.ext xn)
        have r1 := kp.row (hb1.ext xn)
        exact ⟨_, rfl, x14.heap r0.lt, x14.heap r1.lt, rfl, x08.tr (hk.tr x14)⟩)
  · (
      refine (tiNew_spec 0 1 0 w8).mono ?_
      rintro e w10 hh
      obtain ⟨t, rfl, h0⟩ := hh
      have xn := h0.x
      have zn := xn.size
      rw [lim1] at h0
      refine ⟨_, rfl, xn.heap (by omega), xn.heap (by omega), Br.mk (fun h => by cases h) (fun _ => ?_)⟩
      refine (tiLoad_spec h0 (.inl (by simp)) p).mono ?_
      rintro e w12 hh
      obtain ⟨rfl, h2, kp⟩ := hh
      have z2 := h2.x.size
      have hk := h2.x
      refine ⟨_, rfl, kp _ _ (hb0.ext xn), kp _ _ (hb1.ext xn), yes ?_ ?_⟩
      · by_cases hin : inT p
        · have : (ldE 0 1 [] p).2 ≠ 5 := fun e => ld_out.1 e hin
          rw [decide_eq_true hin, beq_eq_false_iff_ne.2 this]; rfl
        · rw [decide_eq_false hin, ld_out.2 hin]; rfl
      · refine (lives12_spec w12).mono ?_
        rintro e w14 hh
        obtain ⟨rfl, x14⟩ := hh
        have r0 := kp.row (hb0.ext xn)
        have r1 := kp.row (hb1.ext xn)
        exact ⟨_, rfl, x14.heap r0.lt, x14.heap r1.lt, rfl, x08.tr (hk.tr x14)⟩)
  · (
      refine (tiNew_spec 0 1 0 w8).mono ?_
      rintro e w10 hh
      obtain ⟨t, rfl, h0⟩ := hh
      have xn := h0.x
      have zn := xn.size
      rw [lim1] at h0
      refine ⟨_, rfl, xn.heap (by omega), xn.heap (by omega), Br.mk (fun h => by cases h) (fun _ => ?_)⟩
      refine (tiLoad_spec h0 (.inl (by simp)) p).mono ?_
      rintro e w12 hh
      obtain ⟨rfl, h2, kp⟩ := hh
      have z2 := h2.x.size
      have hk := h2.x
      refine ⟨_, rfl, kp _ _ (hb0.ext xn), kp _ _ (hb1.ext xn), yes ?_ ?_⟩
      · by_cases hin : inT p
        · have : (ldE 0 1 [] p).2 ≠ 5 := fun e => ld_out.1 e hin
          rw [decide_eq_true hin, beq_eq_false_iff_ne.2 this]; rfl
        · rw [decide_eq_false hin, ld_out.2 hin]; rfl
      · refine (lives12_spec w12).mono ?_
        rintro e w14 hh
        obtain ⟨rfl, x14⟩ := hh
        have r0 := kp.row (hb0.ext xn)
        have r1 := kp.row (hb1.ext xn)
        exact ⟨_, rfl, x14.heap r0.lt, x14.heap r1.lt, rfl, x08.tr (hk.tr x14)⟩)
end Go.Proofs.YtbnmglonbhdcbaaDoor
